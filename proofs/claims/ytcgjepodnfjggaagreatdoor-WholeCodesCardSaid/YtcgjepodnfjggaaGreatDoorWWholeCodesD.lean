/- The walk of the statement WholeCodes, text 4. Conditions: each theorem tells its own. -/
import Derived.Test.YtcgjepodnfjggaaGreatDoorWWholeCodesC
import Derived.Test.YtcgjepodnfjggaaGreatDoorWWholeCodesB
import Derived.Test.YtcgjepodnfjggaaGreatDoorWWholeCodesA
import Derived.Maps.RangeRun
import Derived.Deep.AppendSrc
set_option linter.all false
section
namespace Go.Proofs.YtcgjepodnfjggaaGreatDoor
open Go Go.a6
set_option maxRecDepth 100000
def bS.bq(x:bS):List cr:=x.dP.filter (fun f=>decide (f.op=x.ops))
theorem AX(x:bS):x.bq.map cr.abs=x.abs.eW:=by
 unfold bS.bq c7.eW bS.abs;simp only[Pv];rfl
theorem Zd{x:bS}{f:cr}(h:f∈x.bq):f∈x.dP:=(List.mem_filter.1 h).1
theorem acT{x:bS}(af:x.abs.Ok):x.bq.length≤1000:=by
 have aa:=af.pl;unfold bS.abs at aa;simp only[iK] at aa;exact sW (EF ..) aa
theorem atZ{x:bS}(af:x.abs.Ok):x.dP.length≤1000:=by
 have aa:=af.pl;unfold bS.abs at aa;simp only[iK] at aa;exact aa
theorem Vd{x:bS}(af:x.abs.Ok){f:cr}(h:f∈x.dP):f.bits.length≤1000000:=af.o4 f.abs (List.mem_map_of_mem h)
theorem YD(x:bS)(k:Int):(fa x.bq k).isSome=(p8 x.abs.eW k).isSome:=by
 rw[←AX,←ym,Option.isSome_map]
theorem aaD(x:bS)(b p:Int):(s7 x b p).isSome=x.abs.j3 b p:=by
 unfold s7;split
 ·rename_i h;rw[h];rfl
 ·rename_i h;cases c6:x.abs.j3 b p with
  |true=>exact absurd c6 h
  |false=>rfl
theorem ZT{x:bS}{b p:Int}{bU:cn}{k:Nat}(ky:x.abs.j3 b p=true)(ad:x.I9 b=bU)(aG:p=(k:Nat)):s7 x b p=some ⟨ob bU.A,0+k*3,none⟩:=by
 unfold s7;rw[aD ky,ad,aG,jK]
theorem asM{g:Nat}{x:bS}{w:ao}(ag:Has (ff g x) w){i k:Nat}{bU:cn}{bZ:cH}(ad:x.blocks[i]?=some bU)(aG:bU.bO[k]?=some bZ){j:Nat}{v:aV}(ax:bZ.row[j]?=some v):w.cell? ⟨ob bU.A,0+k*3+j,none⟩=some v:=by
 have ah:=(j6.1 aG).1;have aa:=Cu ag (iF ad);have Qf:ju bU.A=0:=Wl (aa.rj (A:=bU.rows) (by simp)) (by omega);have:=(Jm aa).rowAt An aG (by omega) j v ax;rw[Qf] at this;exact this
theorem NL{x:bS}{b p:Int}{i k:Nat}{bU:cn}{bZ:cH}(ad:b=(i:Nat))(aG:p=(k:Nat))(ij:x.blocks[i]?=some bU)(kV:bU.bO[k]?=some bZ):x.abs.bU b=bU.abs∧x.abs.bZ b p=bZ.abs:=by
 have aa:x.abs.bU b=bU.abs:=by
  unfold c7.bU;rw[ad,jK,eM,I2 ij,kg]
 refine⟨aa,?_⟩;unfold c7.bZ;rw[aa,aG,jK,eM];show((bU.bO.map cH.abs)[k]?).getD _=_;rw[jj,kV];rfl
theorem Zl{x:bS}(af:x.abs.Ok){i k:Nat}{bU:cn}{bZ:cH}(ij:x.blocks[i]?=some bU)(kV:bU.bO[k]?=some bZ):(bZ.l.length:Int)=x.size∧(∀t∈bZ.l,t<256)∧bZ.laid.length≤4096∧∀t∈bZ.laid,t<256:=
 (af.bZ _ (iF (I2 ij))).2 bZ.abs (Vk (iF kV))
def pD(level:Int)(b:ae)(f:cr):ae:=if f.kind=1∧(f.level= -1∨f.level=level) then e6 b f.bits else b
def kl(l:List cr)(level:Int)(b:ae):ae:=l.foldl (pD level) b
theorem ajI(l:List cr)(level:Int):∀b:ae,kl l level b=D6 (l.map cr.abs) level b:=by
 unfold kl D6;intro b;rw[List.foldl_map];rfl
theorem aph{l:List cr}{level:Int}{b:ae}{i:Nat}(h:i<l.length):kl (l.take (i+1)) level b=pD level (kl (l.take i) level b) (bH l i):=by
 unfold kl;rw[pN,vp h,xZ];rfl
theorem ajA(level:Int)(b:ae)(f:cr):(pD level b f).length=b.length∧((∀x∈b,x<256)→∀x∈pD level b f,x<256):=by
 unfold pD;split
 ·exact⟨y9 _ _,fun h=>x6 h _⟩
 ·exact⟨I,fun h=>h⟩
theorem M5(level:Int):∀(l:List cr) (b:ae),(kl l level b).length=b.length∧((∀x∈b,x<256)→∀x∈kl l level b,x<256)
 |[],b=>⟨rfl,fun h=>h⟩
 |f::l,b=>by
  have aa:=ajA level b f;have ab:=M5 level l (pD level b f);exact⟨ab.1.trans aa.1,fun h=>ab.2 (aa.2 h)⟩
def tF(b:ae)(f:cr):ae:=if f.kind=4 then e6 b f.bits else b
def fK(l:List cr)(b:ae):ae:=l.foldl tF b
theorem auD(l:List cr)(b:ae):fK l b=zW (l.map cr.abs) b:=by
 unfold fK zW;rw[List.foldl_map];rfl
theorem at3{l:List cr}{b:ae}{i:Nat}(h:i<l.length):fK (l.take (i+1)) b=tF (fK (l.take i) b) (bH l i):=by
 unfold fK;rw[pN,vp h,xZ];rfl
theorem ag6(b:ae)(f:cr):(tF b f).length=b.length∧((∀x∈b,x<256)→∀x∈tF b f,x<256):=by
 unfold tF;split
 ·exact⟨y9 _ _,fun h=>x6 h _⟩
 ·exact⟨I,fun h=>h⟩
theorem Oz:∀(l:List cr) (b:ae),(fK l b).length=b.length∧((∀x∈b,x<256)→∀x∈fK l b,x<256)
 |[],b=>⟨rfl,fun h=>h⟩
 |f::l,b=>by
  have aa:=ag6 b f;have ab:=Oz l (tF b f);exact⟨ab.1.trans aa.1,fun h=>ab.2 (aa.2 h)⟩
theorem Ky{s:c7}{b p level:Int}(h:s.rm b p level≠0):s.rd b p level=(s.rm b p level,[],s):=by
 unfold c7.rd;rw[aD h]
theorem OJ{s:c7}{b p level:Int}(h:s.rm b p level=0)(ag:(p8 s.eW 3).isSome=true):s.rd b p level=(109,[],{s.tick with off:=true}):=by
 unfold c7.rd;rw[az (fun aQ=>aQ h),aD ag]
theorem QX{s:c7}{b p level:Int}(h:s.rm b p level=0)(ag:(p8 s.eW 3).isSome=false):s.rd b p level=(0,D6 s.eW level (s.bZ b p).cells,s.tick):=by
 unfold c7.rd;rw[az (fun aQ=>aQ h),az (by rw[ag];decide)]
theorem aqz{s:c7}{b p level:Int}(h:s.rm b p level=0):s.off=false∧s.j3 b p=true∧0≤level∧level<s.ot:=by
 obtain⟨aa,ab,_⟩:=XC h;rw[b7] at ab;exact⟨aa,ab.1,gF ab.2⟩
theorem Ss{s:c7}{b p:Int}{n:Nat}(h:s.wI b p n=0):s.off=false∧s.j3 b p=true∧(n:Int)=s.size:=by
 obtain⟨aa,ab,an⟩:=XC h;exact⟨aa,ab,gF an⟩
section
variable{P:a8}{ops:Array Oper}{S:ao→Prop}{K:Act→ao→Prop}{p:eR}{n:Nat}{l:List (Nat×aV)}{C:ao→Prop}{fl:Bool}{i:Nat}{ty dr dk:aO}{x:bf}
theorem ajq{d:Nat}(av:cG ops n l i=some (some d,.binOp .neq ty x (.const .nilFunc) dr,dk))(cE:abM (P.underlying ty)=true)(af:bk l x=some .nilFunc)(h:U P ops S K p n ((d,.bool false)::l) C):U P ops S K (.bB fl i p) n l C:=
 U.pure av (fun a w o he aa _=>by
  obtain⟨t1,t2,t3,hu⟩:∃a b c,P.underlying ty=some (.func a b c):=by
   unfold abM at cE;split at cE
   ·exact⟨_,_,_,by assumption⟩
   ·cases cE
  have bu:a.eval (.const .nilFunc)=.nilFunc:=rfl;have bD:(binOp .neq ty .nilFunc .nilFunc).run P w=.ok (.bool false) w:=by
   simp only[binOp,Op.equal,Op.maxDepth,Sem.run_bind];rw[Op.equalIn];simp[run_underlying hu]
  have dl:(eqGuard .neq ty x (.const .nilFunc) .nilFunc .nilFunc).run P w=.ok () w:=by
   unfold eqGuard;cases x<;>rfl
  simp only[execOp,aa,he.bk af,bu,Sem.run_bind,dl,bD,Result.andThen_ok,Sem.run_pure]) h
end
end Go.Proofs.YtcgjepodnfjggaaGreatDoor
end
section
namespace Go.Proofs.YtcgjepodnfjggaaGreatDoor
open Go Go.a6 Go.cv
set_option maxRecDepth 100000
def pJ(x:bS)(i:Nat):List cr:=(x.dP.take i).filter (fun f=>decide (f.op=x.ops))
theorem atl{x:bS}{i:Nat}(h:i<x.dP.length):pJ x (i+1)=if(bH x.dP i).op=x.ops then pJ x i++[bH x.dP i] else pJ x i:=by
 unfold pJ;rw[pN,vp h,zF];split
 ·rename_i ah;rw[show List.filter (fun f=>decide (f.op=x.ops)) (some (bH x.dP i)).toList=[bH x.dP i] from List.filter_cons_of_pos (by simpa using ah)]
 ·rename_i ah;rw[show List.filter (fun f=>decide (f.op=x.ops)) (some (bH x.dP i)).toList=[] from List.filter_cons_of_neg (by simpa using ah),nK]
theorem ahh(x:bS):pJ x x.dP.length=x.bq:=by
 unfold pJ bS.bq;rw[m4]
theorem aiu(x:bS)(i:Nat):(pJ x i).length≤x.dP.length:=by
 unfold pJ;exact sW (EF ..) (by rw[fW];exact Nat.min_le_right ..)
def bS.tick(x:bS):bS:={x with ops:=wr (x.ops+1)}
theorem Tq(F:Nat→Prop)(g:Nat)(x:bS)(af:x.abs.Ok)(w:ao)(hw:au F w [ff g x] w):s5 Tryz.prog 32 [.pointer (some ⟨g,0,none⟩)] F w (X:=aN×Nat) (fun z=>.slice z.1 x.bq.length z.2) (fun z=>x.bq.length≤z.2) (fun z=>[own 43 5 z.1 x.bq.length z.2 (x.bq.flatMap cr.row),ff g x.tick]):=by
 have iQ:=atZ af;refine pP Tryz.func32 I Tryz.ntmps32 I hw<|J.pre (fun _ h=>h.w4)<|J.aw 1 I<|ak I I<|U.bl 1 I<|ak I I<|U.next<|J.seq<|J.aw 6 I<|ac I I<|bI I I<|bd I I<|cm 0 I I I (v:=.slice x.pg x.dP.length x.c0) I<|cf I I<|ac I I<|U.next<|J.block<|J.loop (G:=Nat×aN×Nat) (fun q=>[(0,.pointer (some ⟨g,0,none⟩)),(3,.slice q.2.1 (pJ x q.1).length q.2.2),(9,.slice x.pg x.dP.length x.c0),(10,.int .i64 (x.dP.length:Nat)),(11,.int .i64 (q.1:Nat))]) (fun q=>au F w [own 43 5 q.2.1 (pJ x q.1).length q.2.2 ((pJ x q.1).flatMap cr.row),x.aW g,x.lX,x.p1,x.sm,x.fst]) (fun q=>q.1≤x.dP.length∧(pJ x q.1).length≤q.2.2) (fun q=>x.dP.length- q.1) (0,none,0) ⟨I,I,I,I,I,trivial⟩ (fun _ h=>h.iB 43 5) ⟨dg _,cq _⟩ ?_;rintro⟨i,q⟩ ⟨hi,aM⟩;simp only at hi aM;dsimp only;have mI:=aiu x i;refine J.aw 1 I<|cQ I I I I<|U.next<|J.seq ?_;refine J.test I (fun ag=>?_) (fun ag=>?_)
 ·have gG:i<x.dP.length:=by omega
  have bg:=vp gG;have dT:=atl gG;refine J.skip<|al.code<|J.seq<|J.block<|J.aw 4 I<|fH i (fun w hw=>(hw.has (i:=4) I).dw) I I I I gG<|pj (cs:=(bH x.dP i).row) I I I (fun w hw=>((hw.has (i:=4) I).dw).rowAt Dz bg (by omega))<|gg I aJ<|fun BK=>fE 0 I I (by kernel_rfl) I I I I aJ<|U.next<|J.seq<|J.dQ (bW [0,1,2,3,4,5,6] .done) (au F w [aE BK 43 #[.int .i64 (bH x.dP i).op,.int .i64 (bH x.dP i).kind,.int .i64 (bH x.dP i).level,.int .i64 (bH x.dP i).n,.slice (bH x.dP i).A (bH x.dP i).bits.length (bH x.dP i).c],own 43 5 q.1 (pJ x i).length q.2 ((pJ x i).flatMap cr.row),x.aW g,x.lX,x.p1,x.sm,x.fst]) mixed (by kernel_rfl) (fun _ h=>h.drew) (fun _ h=>h)<|bd I I<|dc I I (v:=.int .i64 (bH x.dP i).op) (fun _ hw=>hw.cP (i:=0) I I)<|ac I I<|bI I I<|bd I I<|dc I I (v:=.int .i64 x.ops) (fun _ hw=>hw.cP (i:=2) I I)<|gy I I I I<|U.next ?_;refine J.test I (fun ag=>?_) (fun ag=>?_)
  ·refine J.rg 5 I<|ac I I<|ie 0 I I I<|ja I I (cells:= #[.int .i64 (bH x.dP i).op,.int .i64 (bH x.dP i).kind,.int .i64 (bH x.dP i).level,.int .i64 (bH x.dP i).n,.slice (bH x.dP i).A (bH x.dP i).bits.length (bH x.dP i).c]) (by kernel_rfl) I aJ<|fun iv=>ma 2 I I I I (ys:=(bH x.dP i).row) (fun w hw=>Has.gK ((hw.has (i:=0) I).kI (m:=1) I) I) I I (by omega) (by unfold maxLen;omega) (by omega) (fun _ _ _ _=>trivial)<|fun bw c2 cR=>ak rfl rfl<|U.end_<|al.aE<|al.code<|J.rg 2 rfl<|b1 rfl rfl rfl (r:=((i+1:Nat):Int)) (bm (by omega))<|ac rfl rfl<|U.end_ ?_;exact al.back (i+1,bw,c2) ⟨I,(by simp only;rw[dT,aD ag,ee];rfl),rfl,rfl,rfl,trivial⟩ (fun _ h=>by
    have aa:=h.pick [2,2,2,2,2,2] rfl;simp only;rw[dT,aD ag,ee,Ea];exact aa) ⟨by simp only;omega,by simp only;rw[dT,aD ag,ee];exact cR⟩ (by simp only;omega)
  ·refine J.skip<|al.aE<|al.code<|J.rg 2 I<|b1 I I I (r:=((i+1:Nat):Int)) (bm (by omega))<|ac I I<|U.end_ ?_;exact al.back (i+1,q) ⟨I,(by simp only;rw[dT,az ag];rfl),rfl,rfl,rfl,trivial⟩ (fun _ h=>by
    have aa:=h.pick [1,1,1,1,1,1] rfl;simp only;rw[dT,az ag];exact aa) ⟨by simp only;omega,by simp only;rw[dT,az ag];exact aM⟩ (by simp only;omega)
 ·obtain rfl:i=x.dP.length:=by omega
  rw[ahh] at aM⊢;refine J.exit I<|al.code<|J.aw 8 I<|ac I I<|bI I I<|bd I I<|cm 1 I I I (v:=.int .i64 x.ops) I<|b1 I I I (r:=wr (x.ops+1)) I<|bI I I<|bd I I<|eh 1 I I I I I (by show 5<9;decide) aJ<|U.bl 2 rfl<|ac rfl rfl<|ak rfl rfl<|U.next<|J.ret ?_;exact al.ret Tryz.results32 I (fun w hw=>⟨q,I,aM,by
   have aa:=(hw.pick [1,1,1,1,1,0] rfl).ve (x:=x.tick);exact aa.pick [1,0] I⟩)
theorem alu(F:Nat→Prop)(g:Nat)(x:bS)(A:aN)(c:Nat)(l:List cr)(e:Nat→Addr)(w:ao)(alX:∀ar,Fr F w ar→gI e ar 10)(bc:∀ar,Fr F w ar→vY A l ar)(hw:au F w [ff g x] w):s5 Tryz.prog 29 [.pointer (some ⟨g,0,none⟩),.slice A l.length c] F w (X:=bS) (fun _=>u0 e (if 1000<l.length then 106 else 0)) (fun z=>if 1000<l.length then z=x else z.abs={x.abs with dP:=l.map cr.abs}∧z.watch=x.watch) (fun z=>[ff g z]):=by
 refine pP Tryz.func29 I Tryz.ntmps29 I hw<|J.aw 1 I<|ak I I<|U.next<|J.seq<|J.aw 3 I<|ac I I<|cf I I<|fD I I I (r:=decide (1000<l.length)) (pu.2 (by omega))<|U.next ?_;refine J.test I (fun qa=>?_) (fun qa=>?_)
 ·exact J.aw 2 I<|c5 I I (fun _ h=>alX _ h.b6)<|ak I I<|U.next<|J.ret<|al.ret Tryz.results29 I (fun w hw=>⟨x,by rw[aD qa];rfl,by simp only[aD qa],hw⟩)
 ·exact J.skip<|al.code<|J.aw 6 I<|ac I I<|ac I I<|dh I I I I (fun aZ hw=>ar5 A c l aZ (bc _ hw.b6) (by omega)) aJ<|fun y aF=>U.pre (fun _ h=>(h.pick [2,0,0] I).w4)<|bI I I<|bd I I<|eh 0 I I I I I (by show 4<9;decide) aJ<|U.bl 1 rfl<|ak rfl rfl<|U.next<|J.ret<|al.ret Tryz.results29 rfl (fun w hw=>⟨{x with pg:=y.A,c0:=y.c,dP:=y.l},by rw[az qa];rfl,by simp only[az qa];exact⟨by unfold bS.abs;simp only[aF],trivial⟩,(hw.pick [0,0,0,2,2] rfl).ve (x:={x with pg:=y.A,c0:=y.c,dP:=y.l})⟩)
end Go.Proofs.YtcgjepodnfjggaaGreatDoor
end
section
namespace Go.a6
open Go
section
variable{P:a8}{ops:Array Oper}{S:ao→Prop}{K:Act→ao→Prop}{p:eR}{n:Nat}{l:List (Nat×aV)}{C:ao→Prop}{fl:Bool}{i:Nat}{ty dr dk tR:aO}{x y z u:bf}
variable{F:Nat→Prop}{w₀:ao}{L dv:List bi}
end
end Go.a6
end
section
namespace Go.Proofs.YtcgjepodnfjggaaGreatDoor
open Go Go.a6 Go.cv
set_option maxRecDepth 100000
structure Bk where
 b:Int
 p:Int
 level:Int
 NQ:aN
 gc:Nat
 NW:ae
 Ft:aN
 WE:Nat
 laid:ae
 n:Int
def Bk.cells(y:Bk):cJ:= #[.int .i64 y.b,.int .i64 y.p,.int .i64 y.level,.slice y.NQ y.NW.length y.gc,.slice y.Ft y.laid.length y.WE,.int .i64 y.n]
def Bk.Wp(y:Bk):bi:=own 5 1 y.NQ y.NW.length y.gc (aA .u8 y.NW)
def Bk.ss(y:Bk):bi:=own 5 1 y.Ft y.laid.length y.WE (aA .u8 y.laid)
set_option maxHeartbeats 1600000 in
theorem vC(F:Nat→Prop)(g:Nat)(x:bS)(af:x.abs.Ok)(b p level:Int)(e:Nat→Addr)(w:ao)(akW:x.watch=.nilFunc)(vd:∀ar,Fr F w ar→gI e ar 4)(iy:∀ar,Fr F w ar→gI e ar 11)(zS:∀ar,Fr F w ar→gI e ar 2)(hw:au F w [ff g x] w):s5 Tryz.prog 10 [.pointer (some ⟨g,0,none⟩),.agg #[.int .i64 b,.int .i64 p],.int .i64 level] F w (X:=(aN×Nat)×bS) (fun z=>two (.slice z.1.1 (x.abs.rd b p level).2.1.length z.1.2) (u0 e (x.abs.rd b p level).1)) (fun z=>z.2.abs=(x.abs.rd b p level).2.2∧z.2.watch=x.watch) (fun z=>[own 5 1 z.1.1 (x.abs.rd b p level).2.1.length z.1.2 (aA .u8 (x.abs.rd b p level).2.1),ff g z.2]):=by
 refine pP Tryz.func10 I Tryz.ntmps10 I hw<|J.aw 3 I<|fx I I aJ<|fun fb=>ak I I<|ak I I<|U.bl 4 I<|ac I I<|ie 0 I I I<|bJ I I I I (fun w hw=>YB g x af b p w (hw.has (i:=1) I)) aJ<|ak I I<|U.next<|J.seq ?_;refine J.cut (G:=Unit) (fun _=>[(0,.pointer (some ⟨g,0,none⟩)),(2,.int .i64 level),(4,.pointer (some ⟨fb,0,none⟩)),(8,.pointer (s7 x b p)),(9,u0 e (x.abs.rm b p level))]) (fun _=>au F w [aE fb 38 #[.int .i64 b,.int .i64 p],ff g x]) (fun _=>True) ?_ ?_
 ·refine J.rg 17 I<|ac I I<|ac I I<|abv I I (aaD x b p)<|ac I I ?_;refine U.bool 22 I (fun ad=>?_) (fun ad=>?_)
  ·have aa:x.abs.j3 b p=true:=ad;refine ac I I<|jz I I I I<|fe I I I<|ac I I ?_;refine U.bool 26 I (fun ad=>?_) (fun ad=>?_)
   ·have ab:=gF ad;exact ac I I<|ac I I<|bI I I<|bd I I<|c5 I I (v:=.int .i64 x.ot) (fun _ hw=>qo (hw.has (i:=1) I) I)<|cQ I I I I<|fe I I I<|bJ I I I I (fun w hw=>F4 g x.off _ true e w (qo (hw.has (i:=1) I) I) (vd _ hw.b6) (iy _ hw.b6) (zS _ hw.b6)) aJ<|ak I I<|U.end_<|al.join () ⟨I,I,I,I,by unfold c7.rm;rw[aa,pu.2 (show(0≤level∧level<x.abs.ot)↔level<x.ot from⟨fun h=>h.2,fun h=>⟨ab,h⟩⟩),mU];rfl,trivial⟩ (fun _ h=>h) trivial
   ·have ab:=jG ad;exact U.skip I<|U.skip I<|U.skip I<|U.skip I<|U.skip I<|U.skip I<|ef I I I<|bJ I I I I (fun w hw=>F4 g x.off _ true e w (qo (hw.has (i:=1) I) I) (vd _ hw.b6) (iy _ hw.b6) (zS _ hw.b6)) aJ<|ak I I<|U.end_<|al.join () ⟨I,I,I,I,by unfold c7.rm;rw[aa,df (fun h:0≤level∧level<x.abs.ot=>ab h.1)];rfl,trivial⟩ (fun _ h=>h) trivial
  ·have aa:x.abs.j3 b p=false:=ad;exact U.skip I<|U.skip I<|ef I I I<|ac I I<|U.skip I<|U.skip I<|U.skip I<|U.skip I<|U.skip I<|U.skip I<|ef I I I<|bJ I I I I (fun w hw=>F4 g x.off _ true e w (qo (hw.has (i:=1) I) I) (vd _ hw.b6) (iy _ hw.b6) (zS _ hw.b6)) aJ<|ak I I<|U.end_<|al.join () ⟨I,I,I,I,by unfold c7.rm;rw[aa,Nh];rfl,trivial⟩ (fun _ h=>h) trivial
 ·intro _ _;refine J.aw 2 I<|ac I I<|Ta I I (W8 e (x.abs.rm b p level))<|U.next ?_;refine J.test I (fun aL=>?_) (fun aL=>?_)
  ·exact J.aw 3 I<|ac I I<|ak I I<|ak I I<|U.next<|J.ret<|al.ret Tryz.results10 I (fun w hw=>⟨((none,0),x),by rw[Ky aL];rfl,by rw[Ky aL];exact⟨I,I⟩,by rw[Ky aL];exact((hw.pick [1] I).iB 5 1)⟩)
  ·have oz:=Nk aL;obtain⟨vx,ky,axu,awe⟩:=aqz oz;obtain⟨i,k,bU,bZ,oC,p5,ij,kV,AG⟩:=MI af ky;have MG:=ZT ky AG p5;have vN:=(NL oC p5 ij kV).2;have oQ:=iF ij;have abQ:=iF kV;obtain⟨x2,tn,ajf,apG⟩:=Zl af ij kV;have J8:x.size≤4096:=af.gC;have JZ:=acT af;refine J.skip<|al.code<|J.aw 3 I<|ac I I<|li [1,0] (M:=[ff g x]) (R:=[aE fb 38 #[.int .i64 b,.int .i64 p]]) (X:=aN×Nat) (v:=fun z=>.slice z.1 x.bq.length z.2) (pf:=fun z=>x.bq.length≤z.2) (fS:=fun z=>[own 43 5 z.1 x.bq.length z.2 (x.bq.flatMap cr.row),ff g x.tick]) I I I I I (fun dK ar cy kE=>Tq dK g x af ar kE) (fun _ _ _=>trivial)<|fun z as5=>ak I I<|U.next<|J.seq<|J.aw 8 I<|ac I I<|bJ I I I I (fun w hw=>Qa z.1 z.2 x.bq 3 w ((hw.has (i:=0) I).dw) JZ) aJ<|ac I I<|cB I I I<|cB I I I<|gg I aJ<|fun kR=>fE 0 I I (by kernel_rfl) I I I I aJ<|ak I I<|U.bl 1 I<|ac I I<|U.next ?_;refine J.cond I (fun mQ=>?_) (fun mQ=>?_)
   ·rw[YD] at mQ;exact J.seq<|J.pre (fun _ h=>(h.pick [2,0,0,0] I).w4)<|J.rg 4 I<|ac I I<|bI I I<|bd I I<|eh 0 I I I I I (by show 7<9;decide) aJ<|U.next<|J.seq<|J.dQ (bW [0,1,2] .done) (au F w []) mixed (by kernel_rfl) (fun _ h=>h.drew) (fun _ h=>h.pick [] rfl)<|dc rfl rfl (fun _ h=>vd _ h.b6)<|ak rfl rfl<|ak rfl rfl<|U.next<|J.ret<|al.ret Tryz.results10 rfl (fun w hw=>⟨((none,0),{x.tick with off:=true}),by rw[OJ oz mQ];rfl,by rw[OJ oz mQ];exact⟨I,I⟩,by rw[OJ oz mQ];exact((hw.pick [0,0,0,0,0] I).ve (x:={x.tick with off:=true})).iB 5 1⟩)
   ·rw[YD] at mQ;rw[MG];refine J.skip<|al.code<|J.aw 6 I<|ac I I<|bI I I<|bd I I<|c5 I I (v:=.slice bZ.A bZ.l.length bZ.c) (fun _ hw=>asM (x:=x.tick) (hw.has (i:=2) I) ij kV (j:=0) I)<|dh I I I I (fun w hw=>Nx bZ.A bZ.l.length bZ.c bZ.l w (aeq (atT (Cu (x:=x.tick) (hw.has (i:=2) I) oQ) abQ)) (by omega)) aJ<|fun e8 S4=>ak I I<|U.next<|J.seq<|J.aw 3 I<|ac I I<|cf I I<|ac I I<|U.next<|J.block<|J.loop (G:=Nat) (fun j=>[(0,.pointer (some ⟨g,0,none⟩)),(2,.int .i64 level),(4,.pointer (some ⟨fb,0,none⟩)),(8,.pointer (some ⟨ob bU.A,0+k*3,none⟩)),(13,.slice e8.1 bZ.l.length e8.2),(55,.slice z.1 x.bq.length z.2),(56,.int .i64 (x.bq.length:Nat)),(57,.int .i64 (j:Nat))]) (fun j=>au F w [own 5 1 e8.1 bZ.l.length e8.2 (aA .u8 (kl (x.bq.take j) level bZ.l)),own 43 5 z.1 x.bq.length z.2 (x.bq.flatMap cr.row),ff g x.tick,aE fb 38 #[.int .i64 b,.int .i64 p]]) (fun j=>j≤x.bq.length) (fun j=>x.bq.length- j) 0 ⟨I,I,I,I,I,I,I,I,trivial⟩ (fun _ h=>h.pick [0,1,1,1] I) (dg _) ?_;intro j ax;refine J.aw 1 I<|cQ I I I I<|U.next<|J.seq ?_;refine J.test I (fun ag=>?_) (fun ag=>?_)
    ·have l7:j<x.bq.length:=by omega
     have bg:=vp l7;have qO:=Zd (O3 l7);have dT:=aph (level:=level) (b:=bZ.l) l7;obtain⟨js,uL⟩:=M5 level (x.bq.take j) bZ.l;have zu:=uL tn;have rb:=Vd af qO;refine J.skip<|al.code<|J.seq<|J.block<|J.aw 4 I<|fH j (fun w hw=>(hw.has (i:=1) I).dw) I I I I l7<|pj (cs:=(bH x.bq j).row) I I I (fun w hw=>((hw.has (i:=1) I).dw).rowAt Dz bg (by omega))<|gg I aJ<|fun A9=>fE 0 I I (by kernel_rfl) I I I I aJ<|U.bl 14 I<|bd I I<|c5 I I (v:=.int .i64 (bH x.bq j).kind) (fun _ hw=>hw.cP (i:=0) (j:=1) I I)<|gy I I I I<|ac I I ?_;refine U.bool 64 I (fun ad=>?_) (fun ad=>?_)
     ·have ka:=gF ad;refine bd I I<|c5 I I (v:=.int .i64 (bH x.bq j).level) (fun _ hw=>hw.cP (i:=0) (j:=2) I I)<|gy I I I I<|ac I I ?_;refine U.bool 68 I (fun ad=>?_) (fun ad=>?_)
      ·have sH:=gF ad;have pt:pD level (kl (x.bq.take j) level bZ.l) (bH x.bq j)=e6 (kl (x.bq.take j) level bZ.l) (bH x.bq j).bits:=by
        unfold pD;rw[aD ⟨ka,.inl sH⟩]
       exact U.skip I<|U.skip I<|U.skip I<|U.skip I<|fe I I I<|fe I I I<|U.next<|J.hH I<|J.rg 4 I<|ac I I<|bd I I<|c5 I I (v:=.slice (bH x.bq j).A (bH x.bq j).bits.length (bH x.bq j).c) (fun _ hw=>hw.cP (i:=0) (j:=4) I I)<|li [1,0,0,0,0] (M:=[own 5 1 e8.1 bZ.l.length e8.2 (aA .u8 (kl (x.bq.take j) level bZ.l))]) (R:=[aE A9 43 #[.int .i64 (bH x.bq j).op,.int .i64 (bH x.bq j).kind,.int .i64 (bH x.bq j).level,.int .i64 (bH x.bq j).n,.slice (bH x.bq j).A (bH x.bq j).bits.length (bH x.bq j).c],own 43 5 z.1 x.bq.length z.2 (x.bq.flatMap cr.row),ff g x.tick,aE fb 38 #[.int .i64 b,.int .i64 p]]) (X:=Unit) (v:=fun _=>oneOf []) (pf:=fun _=>True) (fS:=fun _=>[own 5 1 e8.1 bZ.l.length e8.2 (aA .u8 (e6 (kl (x.bq.take j) level bZ.l) (bH x.bq j).bits))]) I I I I I (fun dK ar cy kE=>by have:=Kr dK e8.1 e8.2 (kl (x.bq.take j) level bZ.l) (bH x.bq j).A (bH x.bq j).c (bH x.bq j).bits ar zu (by rw[js];omega) (fun aZ aI=>OO (x:=x.tick) ((cy aZ aI).has (i:=2) rfl) qO) rb (by rw[js];exact kE);rw[js] at this;exact this) (fun _ _ _=>trivial)<|fun _ _=>U.end_<|al.aE<|al.code<|J.rg 2 I<|b1 I I I (r:=((j+1:Nat):Int)) (bm (by omega))<|ac I I<|U.end_<|al.back (j+1) ⟨I,I,I,I,I,I,I,I,trivial⟩ (fun _ h=>by rw[dT,pt];exact h.pick [0,1,1,1] I) (by omega) (by omega)
      ·have sH:=jG ad;refine bd I I<|c5 I I (v:=.int .i64 (bH x.bq j).level) (fun _ hw=>hw.cP (i:=0) (j:=2) I I)<|ac I I<|gy I I I I<|ef I I I<|fe I I I<|U.next ?_;refine J.test I (fun m3=>?_) (fun m3=>?_)
       ·have pt:pD level (kl (x.bq.take j) level bZ.l) (bH x.bq j)=e6 (kl (x.bq.take j) level bZ.l) (bH x.bq j).bits:=by
         unfold pD;rw[aD ⟨ka,.inr m3⟩]
        exact J.rg 4 I<|ac I I<|bd I I<|c5 I I (v:=.slice (bH x.bq j).A (bH x.bq j).bits.length (bH x.bq j).c) (fun _ hw=>hw.cP (i:=0) (j:=4) I I)<|li [1,0,0,0,0] (M:=[own 5 1 e8.1 bZ.l.length e8.2 (aA .u8 (kl (x.bq.take j) level bZ.l))]) (R:=[aE A9 43 #[.int .i64 (bH x.bq j).op,.int .i64 (bH x.bq j).kind,.int .i64 (bH x.bq j).level,.int .i64 (bH x.bq j).n,.slice (bH x.bq j).A (bH x.bq j).bits.length (bH x.bq j).c],own 43 5 z.1 x.bq.length z.2 (x.bq.flatMap cr.row),ff g x.tick,aE fb 38 #[.int .i64 b,.int .i64 p]]) (X:=Unit) (v:=fun _=>oneOf []) (pf:=fun _=>True) (fS:=fun _=>[own 5 1 e8.1 bZ.l.length e8.2 (aA .u8 (e6 (kl (x.bq.take j) level bZ.l) (bH x.bq j).bits))]) I I I I I (fun dK ar cy kE=>by have:=Kr dK e8.1 e8.2 (kl (x.bq.take j) level bZ.l) (bH x.bq j).A (bH x.bq j).c (bH x.bq j).bits ar zu (by rw[js];omega) (fun aZ aI=>OO (x:=x.tick) ((cy aZ aI).has (i:=2) rfl) qO) rb (by rw[js];exact kE);rw[js] at this;exact this) (fun _ _ _=>trivial)<|fun _ _=>U.end_<|al.aE<|al.code<|J.rg 2 I<|b1 I I I (r:=((j+1:Nat):Int)) (bm (by omega))<|ac I I<|U.end_<|al.back (j+1) ⟨I,I,I,I,I,I,I,I,trivial⟩ (fun _ h=>by rw[dT,pt];exact h.pick [0,1,1,1] I) (by omega) (by omega)
       ·have ga:pD level (kl (x.bq.take j) level bZ.l) (bH x.bq j)=kl (x.bq.take j) level bZ.l:=by
         unfold pD;rw[az (fun h=>h.2.elim sH m3)]
        exact J.skip<|al.aE<|al.code<|J.rg 2 I<|b1 I I I (r:=((j+1:Nat):Int)) (bm (by omega))<|ac I I<|U.end_<|al.back (j+1) ⟨I,I,I,I,I,I,I,I,trivial⟩ (fun _ h=>by rw[dT,ga];exact h.pick [1,1,1,1] I) (by omega) (by omega)
     ·have ka:=jG ad;have ga:pD level (kl (x.bq.take j) level bZ.l) (bH x.bq j)=kl (x.bq.take j) level bZ.l:=by
       unfold pD;rw[az (fun h=>ka h.1)]
      exact U.skip I<|U.skip I<|U.skip I<|U.skip I<|U.By I<|U.By I<|U.By I<|U.By I<|U.skip I<|ef I I I<|U.next<|J.dy I<|J.skip<|al.aE<|al.code<|J.rg 2 I<|b1 I I I (r:=((j+1:Nat):Int)) (bm (by omega))<|ac I I<|U.end_<|al.back (j+1) ⟨I,I,I,I,I,I,I,I,trivial⟩ (fun _ h=>by rw[dT,ga];exact h.pick [1,1,1,1] I) (by omega) (by omega)
    ·obtain rfl:j=x.bq.length:=by omega
     rw[m4];obtain⟨js,uL⟩:=M5 level x.bq bZ.l;have zu:=uL tn;have Wr:kl x.bq level bZ.l=D6 x.abs.eW level (x.abs.bZ b p).cells:=by rw[ajI,AX,vN];rfl
     exact J.exit I<|al.code<|J.seq<|J.aw 5 I<|ac I I<|bI I I<|bd I I<|c5 I I (v:=.nilFunc) (fun _ hw=>qo (hw.has (i:=2) I) (by rw[←akW];rfl))<|ajq rfl (by kernel_rfl) rfl<|U.next<|J.dy rfl<|J.skip<|al.code<|J.aw 3 rfl<|ac rfl rfl<|ak rfl rfl<|ak rfl rfl<|U.next<|J.ret<|al.ret Tryz.results10 rfl (fun w hw=>⟨(e8,x.tick),by rw[QX oz mQ,←Wr,js];rfl,by rw[QX oz mQ];exact⟨I,I⟩,by rw[QX oz mQ,←Wr,js];exact hw.pick [0,1] I⟩)
end Go.Proofs.YtcgjepodnfjggaaGreatDoor
end
section
namespace Go.Proofs.YtcgjepodnfjggaaGreatDoor
open Go Go.a6
set_option maxRecDepth 100000
theorem c7.Ok.same{s mc:c7}(h:s.Ok)(bu:mc.bO=s.bO)(bD:mc.size=s.size)(dl:mc.ot=s.ot)(ii:mc.blocks=s.blocks)(kq:mc.dP=s.dP):mc.Ok:=by
 obtain⟨cT,ix,z0,gC,v0,v1,h8,bZ,pl,o4⟩:=h;exact⟨by rw[bu];exact cT,by rw[bu];exact ix,by rw[bD];exact z0,by rw[bD];exact gC,by rw[dl];exact v0,by rw[dl];exact v1,by rw[ii];exact h8,by rw[ii,bu,bD];exact bZ,by rw[kq];exact pl,by rw[kq];exact o4⟩
def rk(p:Int)(j:Nat)(q:im):Bool:=decide ((j:Int)<p)&& !q.used||decide (p≤(j:Int))&&q.used
theorem aan{bO:List im}{p:Int}{j:Nat}{q:im}(h:bO[j]?=some q)(ad:rk p j q=true):vt bO p=true:=by
 unfold vt;rw[List.any_eq_true];refine⟨(q,j),?_,ad⟩;exact iF (i:=j) (by rw[VM,h];simp)
theorem afp{bO:List im}{p:Int}(h:∀(j:Nat) q,bO[j]?=some q→rk p j q=false):vt bO p=false:=by
 unfold vt;rw[List.any_eq_false];intro x af;obtain⟨i,hi⟩:=Ic af;rw[VM,WY] at hi;obtain⟨q,aM,rfl⟩:=hi;have:=h i q aM;simp only[iO];unfold rk at this;rw[this];decide
theorem aid{x:bS}{f:cr}(h:fa x.bq 3=some f)(n:Int):gx x.abs.eW n=(f.n,109):=by
 unfold gx;rw[←AX,←ym,h];rfl
theorem aql{x:bS}{f:cr}(an:fa x.bq 3=none)(h:fa x.bq 2=some f)(n:Int):gx x.abs.eW n=(f.n,111):=by
 unfold gx;rw[←AX,←ym,←ym,an,h];rfl
theorem alH{x:bS}(an:fa x.bq 3=none)(h:fa x.bq 2=none)(n:Int):gx x.abs.eW n=(n,0):=by
 unfold gx;rw[←AX,←ym,←ym,an,h];rfl
theorem apz{n size:Int}:(ht n size:Int)≤max size 0:=by unfold ht;omega
theorem asp{n size:Int}(h:0≤size):(if size<(if(0:Int)>n then 0 else n) then size else(if(0:Int)>n then 0 else n))=((ht n size:Nat):Int):=by
 unfold ht;split<;>split at* <;>omega
theorem NN{m:Nat}{a b:ae}(h:a.length≤b.length):(hA m a b).length=a.length:=by
 unfold hA;rw[ee,acv,fW,fW,qV];omega
theorem Gv{m:Nat}{a b:ae}(h:a.length≤b.length)(j:Nat):(hA m a b)[j]?=if j<m then(a[j]?).map (fun x=>x&&&b.getD j 0) else a[j]?:=by
 unfold hA;have bc:(List.zipWith (fun x y=>x&&&y) (a.take m) (b.take m)).length=min m a.length:=by
  rw[acv,fW,fW];omega
 by_cases ax:j<m
 ·rw[aD ax];by_cases aj:j<a.length
  ·rw[nE (by rw[bc];omega),List.getElem?_zipWith,mj,mj,aD ax,aD ax,eF aj,eF (show j<b.length by omega),eM,eF (show j<b.length by omega)];rfl
  ·rw[iq (by rw[ee,bc,qV];omega),iq (by omega)];rfl
 ·rw[az ax];by_cases aj:j<a.length
  ·rw[mg (by rw[bc];omega),bc,wQ];congr 1;omega
  ·rw[iq (by rw[ee,bc,qV];omega),iq (by omega)]
theorem aoM{m:Nat}{a b:ae}(h:a.length≤b.length)(hm:m<a.length):hA (m+1) a b=(hA m a b).set m ((hA m a b).getD m 0&&&b.getD m 0):=by
 apply jB;intro j;have e:(hA m a b).getD m 0=a.getD m 0:=by
  rw[eM,Gv h,az (by omega),←eM]
 rw[Gv h,rG,Gv h,NN h,e];by_cases ax:m=j
 ·subst ax;rw[aD (by omega),aD rfl,aD hm];simp only[eM,eF hm,kg,gv]
 ·rw[az ax];by_cases B6:j<m
  ·rw[aD (by omega),aD B6]
  ·rw[az (by omega),az B6]
theorem apt(a b:ae):hA 0 a b=a:=by simp[hA]
theorem Y0{m:Nat}{a b:ae}(h:a.length≤b.length)(fq:∀x∈a,x<256):∀x∈hA m a b,x<256:=by
 intro x af;obtain⟨j,ax⟩:=Ic af;rw[Gv h] at ax;split at ax
 ·rw[WY] at ax;obtain⟨y,aF,rfl⟩:=ax;exact lU BN (fq y (iF aF))
 ·exact fq x (iF ax)
theorem abg{s:c7}{b p:Int}{l:ae}(h:s.wI b p l.length≠0):s.ha b p l=(s.wI b p l.length,s):=by
 unfold c7.ha;rw[aD h]
theorem aoa{s:c7}{x:bS}(aq:s.blocks=x.abs.blocks){b p:Int}{i k:Nat}{bU:cn}(ad:b=(i:Nat))(aG:p=(k:Nat))(ij:x.blocks[i]?=some bU){q:im}{hJ:cH}(aM:hJ.abs=q):
  s.HW b p q={s with blocks:=(x.blocks.set i {bU with bO:=bU.bO.set k hJ}).map cn.abs}:=by
 have bD:s.bU b=bU.abs:=by
  unfold c7.bU;rw[aq,ad,jK,eM,I2 ij,kg]
 have dl:({bU with bO:=bU.bO.set k hJ}:cn).abs={bU.abs with bO:=bU.abs.bO.set k q}:=by
  unfold cn.abs;simp only[vj,aM]
 unfold c7.HW;rw[bD,aq,ad,aG,jK,jK,vj,dl];rfl
def bS.fg(x:bS)(b p:Int):bS:={x with broken:=if vt (x.abs.bU b).bO p=true then wr (x.broken+1) else x.broken}
theorem ajQ{x:bS}{b p:Int}{l:ae}(h:x.abs.wI b p l.length=0){i k:Nat}{bU:cn}{bZ:cH}(ad:b=(i:Nat))(aG:p=(k:Nat))(ij:x.blocks[i]?=some bU)(kV:bU.bO[k]?=some bZ)(A:aN)(c:Nat)(B:aN)(d:Nat){r:Int×Int}(aH:gx x.abs.eW x.size=r):
  (x.abs.ha b p l).1=r.2∧({(x.fg b p).tick with off:=(fa x.bq 3).isSome,blocks:=x.blocks.set i {bU with bO:=bU.bO.set k ⟨A,c,hA (ht r.1 x.size) bZ.l (fK x.bq l),B,d,l,true⟩}}:bS).abs=(x.abs.ha b p l).2:=by
 obtain⟨aa,ab⟩:=NL ad aG ij kV;unfold c7.ha;rw[az (fun aQ=>aQ h)];have am2:gx x.abs.eW x.abs.size=r:=aH;simp only[am2];refine⟨trivial,?_⟩;rw[ab,aa,←AX,←auD];have dl:(fa x.bq 3).isSome=(p8 (x.bq.map cr.abs) 3).isSome:=by rw[←ym,Option.isSome_map]
 rw[dl];refine Eq.trans ?_ (Eq.symm (aoa (x:=x) ?_ ad aG ij (hJ:=⟨A,c,hA (ht r.1 x.size) bZ.l (fK x.bq l),B,d,l,true⟩) ?_))
 ·unfold bS.fg bS.tick c7.tick;rw[aa];rfl
 ·rfl
 ·rfl
end Go.Proofs.YtcgjepodnfjggaaGreatDoor
end
section
namespace Go.Proofs.YtcgjepodnfjggaaGreatDoor
open Go Go.a6 Go.cv
set_option maxRecDepth 100000
theorem af3{p:Int}{j:Nat}{q:im}(h:(j:Int)<p)(hu:q.used=false):rk p j q=true:=by unfold rk;rw[decide_eq_true h,hu];rfl
theorem aq3{p:Int}{j:Nat}{q:im}(h:¬(j:Int)<p)(hu:q.used=true):rk p j q=true:=by unfold rk;rw[decide_eq_true (show p≤(j:Int) by omega),hu];simp
theorem ap9{p:Int}{j:Nat}{q:im}(h:(j:Int)<p)(hu:q.used=true):rk p j q=false:=by unfold rk;rw[decide_eq_false (show ¬p≤(j:Int) by omega),hu];simp
theorem afJ{p:Int}{j:Nat}{q:im}(h:¬(j:Int)<p)(hu:q.used=false):rk p j q=false:=by unfold rk;rw[decide_eq_false h,hu];simp
theorem adn{x:bS}(af:x.abs.Ok)(b p:Int):(x.fg b p).abs.Ok:=af.same rfl rfl rfl rfl rfl
theorem List.Va{α:Type}{l:List α}{i:Nat}{a:α}(h:l[i]?=some a):l.set i a=l:=by
 apply jB;intro j;rw[rG];split
 ·rename_i e;subst e;rw[aD (j6.1 h).1,h]
 ·rfl
set_option maxHeartbeats 3200000 in
theorem acE(F:Nat→Prop)(g:Nat)(x:bS)(af:x.abs.Ok)(b p:Int)(A:aN)(c:Nat)(l:ae)(e:Nat→Addr)(w:ao)(vd:∀ar,Fr F w ar→gI e ar 4)(iy:∀ar,Fr F w ar→gI e ar 11)(zS:∀ar,Fr F w ar→gI e ar 2)(asq:∀ar,Fr F w ar→gI e ar 5)(bV:∀ar,Fr F w ar→Has (aP 1 A l.length (aA .u8 l)) ar)(fq:∀t∈l,t<256)(hw:au F w [ff g x] w):s5 Tryz.prog 9 [.pointer (some ⟨g,0,none⟩),.agg #[.int .i64 b,.int .i64 p],.slice A l.length c] F w (X:=bS) (fun _=>u0 e (x.abs.ha b p l).1) (fun z=>z.abs=(x.abs.ha b p l).2∧z.watch=x.watch) (fun z=>[ff g z]):=by
 refine pP Tryz.func9 I Tryz.ntmps9 I hw<|J.aw 2 I<|fx I I aJ<|fun fb=>ak I I<|U.bl 4 I<|ac I I<|ie 0 I I I<|bJ I I I I (fun w hw=>YB g x af b p w (hw.has (i:=1) I)) aJ<|ak I I<|U.next<|J.seq<|J.aw 12 I<|ac I I<|ac I I<|abv I I (aaD x b p)<|ac I I<|cf I I<|ac I I<|bI I I<|bd I I<|c5 I I (v:=.int .i64 x.size) (fun _ hw=>qo (hw.has (i:=1) I) I)<|gy I I I I<|bJ I I I I (fun w hw=>F4 g x.off _ _ e w (qo (hw.has (i:=1) I) I) (vd _ hw.b6) (iy _ hw.b6) (zS _ hw.b6)) aJ<|ak I I<|U.bl 2 I<|ac I I<|Ta I I (W8 e (x.abs.wI b p l.length))<|U.next ?_;refine J.test I (fun aL=>?_) (fun aL=>?_)
 ·exact J.aw 2 I<|ac I I<|ak I I<|U.next<|J.ret<|al.ret Tryz.results9 I (fun w hw=>⟨x,by rw[abg aL];rfl,by rw[abg aL];exact⟨I,I⟩,hw.pick [1] I⟩)
 ·have oz:=Nk aL;obtain⟨vx,ky,sS⟩:=Ss oz;replace sS:(l.length:Int)=x.size:=sS;obtain⟨i,k,bU,bZ,oC,p5,ij,kV,AG⟩:=MI af ky;have MG:=ZT ky AG p5;obtain⟨Du,vN⟩:=NL oC p5 ij kV;have gG:=(j6.1 ij).1;have nC:=(j6.1 kV).1;have oQ:=iF ij;have abQ:=iF kV;obtain⟨x2,tn,ajf,apG⟩:=Zl af ij kV;have J8:x.size≤4096:=af.gC;have axJ:=acK af ij;have yU:x.bO≤64:=af.ix;have avF:1≤x.size:=af.z0;have JZ:=acT af;rw[MG];refine J.skip<|al.code ?_;refine J.cut (G:=Unit) (fun _=>[(0,.pointer (some ⟨g,0,none⟩)),(2,.slice A l.length c),(4,.pointer (some ⟨fb,0,none⟩)),(7,.pointer (some ⟨ob bU.A,0+k*3,none⟩))]) (fun _=>au F w [aE fb 38 #[.int .i64 b,.int .i64 p],ff g (x.fg b p)]) (fun _=>True) ?_ ?_
  ·refine J.seq<|J.dQ (bW [0,1,2,3,4,5,6,7,8,9,10] .done) (au F w [aE fb 38 #[.int .i64 b,.int .i64 p],ff g x]) mixed (by kernel_rfl) (fun _ h=>h.drew) (fun _ h=>h)<|ac I I<|bI I I<|bd I I<|dc I I (v:=.slice x.A x.blocks.length x.c) (fun _ hw=>qo (hw.has (i:=1) I) I)<|bd I I<|dc I I (v:=.int .i64 b) (fun _ hw=>hw.cP (i:=0) I I)<|fH i (fun w hw=>HA (hw.has (i:=1) I)) I I I oC gG<|bd I I<|dc I I (v:=.slice bU.A bU.bO.length bU.c) (fun _ hw=>(HA (hw.has (i:=1) I)).rowAt tN ij (by omega) 0 _ I)<|cf I I<|ac I I<|U.next<|J.block<|J.loop (G:=Nat) (fun j=>[(0,.pointer (some ⟨g,0,none⟩)),(2,.slice A l.length c),(4,.pointer (some ⟨fb,0,none⟩)),(7,.pointer (some ⟨ob bU.A,0+k*3,none⟩)),(47,.slice bU.A bU.bO.length bU.c),(48,.int .i64 (bU.bO.length:Nat)),(49,.int .i64 (j:Nat))]) (fun _=>au F w [aE fb 38 #[.int .i64 b,.int .i64 p],ff g x]) (fun j=>j≤bU.bO.length∧∀rz q,rz<j→bU.abs.bO[rz]?=some q→rk p rz q=false) (fun j=>bU.bO.length- j) 0 ⟨I,I,I,I,I,I,I,trivial⟩ (fun _ h=>h) ⟨dg _,fun j q h=>by omega⟩ ?_;rintro j ⟨ax,ga⟩;refine J.aw 1 I<|cQ I I I I<|U.next<|J.seq ?_;refine J.test I (fun ag=>?_) (fun ag=>?_)
   ·have l7:j<bU.bO.length:=by omega
    obtain⟨rD,Xv⟩:∃rD,bU.bO[j]?=some rD:=⟨_,eF l7⟩;have Js:bU.abs.bO[j]?=some rD.abs:=by unfold cn.abs;rw[jj,Xv];rfl
    refine J.skip<|al.code<|J.seq<|J.block<|J.aw 6 I<|ac I I<|fH j (fun w hw=>Jm (Cu (hw.has (i:=1) I) oQ)) I I I I l7<|pj (cs:=rD.row) I I I (fun w hw=>(Jm (Cu (hw.has (i:=1) I) oQ)).rowAt An Xv (by omega))<|gg I aJ<|fun HC=>ak I I<|fE 0 I I (by kernel_rfl) I I I I aJ<|U.next<|J.seq ?_;by_cases HU:((j:Nat):Int)<p
    ·refine J.rg 19 I<|ac I I<|bd I I<|c5 I I (v:=.int .i64 p) (fun _ hw=>hw.cP (i:=1) (j:=1) I I)<|cQ I I I (ek (by omega))<|ac I I<|bd I I<|c5 I I (v:=.bool rD.used) (fun _ hw=>hw.cP (i:=0) (j:=2) I I)<|ls I I<|fe I I I<|ac I I ?_;refine U.bool 63 I (fun ad=>?_) (fun ad=>?_)
     ·have fZ:=af3 (q:=rD.abs) HU (show rD.used=false by simpa using ad);refine U.skip I<|U.skip I<|U.skip I<|U.skip I<|U.skip I<|U.By I<|U.By I<|U.skip I<|fe I I I<|U.next<|J.hH I<|J.seq<|J.pre (fun _ h=>(h.pick [2,0,0] I).w4)<|J.rg 8 I<|ac I I<|bI I I<|bd I I<|cm 0 I I I (v:=.int .i64 x.broken) I<|b1 I I I (r:=if vt (x.abs.bU b).bO p=true then wr (x.broken+1) else x.broken) (by rw[aD (by rw[Du];exact aan Js fZ)];rfl)<|bI rfl rfl<|bd rfl rfl<|eh 0 rfl rfl rfl rfl rfl (by show 6<9;decide) aJ<|U.next<|J.exit rfl ?_;exact al.join () ⟨I,I,I,I,trivial⟩ (fun _ h=>by
       have aa:=(h.pick [0,0,0,0,0,1] rfl).ve (x:=x.fg b p);exact aa.pick [1,0] I) trivial
     ·have wx:=ap9 (q:=rD.abs) HU (show rD.used=true by simpa using ad);refine ac I I<|bd I I<|c5 I I (v:=.int .i64 p) (fun _ hw=>hw.cP (i:=1) (j:=1) I I)<|jz I I I (df (by omega))<|ac I I<|U.skip I<|U.skip I<|ef I I I<|ef I I I<|U.next<|J.dy I<|J.skip<|al.aE<|al.code<|J.rg 2 I<|b1 I I I (r:=((j+1:Nat):Int)) (bm (by omega))<|ac I I<|U.end_ ?_;exact al.back (j+1) ⟨I,I,I,I,I,I,I,trivial⟩ (fun _ h=>h.pick [1,1] I) ⟨by omega,fun rz q EN aM=>by
       by_cases QW:rz=j
       ·subst QW;rw[Js] at aM;obtain rfl:=er aM;exact wx
       ·exact ga rz q (by omega) aM⟩ (by omega)
    ·refine J.rg 19 I<|ac I I<|bd I I<|c5 I I (v:=.int .i64 p) (fun _ hw=>hw.cP (i:=1) (j:=1) I I)<|cQ I I I (df (by omega))<|ac I I<|U.skip I<|U.skip I<|U.skip I<|ef I I I<|ac I I<|ac I I<|bd I I<|c5 I I (v:=.int .i64 p) (fun _ hw=>hw.cP (i:=1) (j:=1) I I)<|jz I I I (ek (by omega))<|ac I I<|bd I I<|c5 I I (v:=.bool rD.used) (fun _ hw=>hw.cP (i:=0) (j:=2) I I)<|fe I I I<|ef I I I<|U.next ?_;refine J.cond I (fun hu=>?_) (fun hu=>?_)
     ·have fZ:=aq3 (q:=rD.abs) HU hu;refine J.seq<|J.pre (fun _ h=>(h.pick [2,0,0] I).w4)<|J.rg 8 I<|ac I I<|bI I I<|bd I I<|cm 0 I I I (v:=.int .i64 x.broken) I<|b1 I I I (r:=if vt (x.abs.bU b).bO p=true then wr (x.broken+1) else x.broken) (by rw[aD (by rw[Du];exact aan Js fZ)];rfl)<|bI rfl rfl<|bd rfl rfl<|eh 0 rfl rfl rfl rfl rfl (by show 6<9;decide) aJ<|U.next<|J.exit rfl ?_;exact al.join () ⟨I,I,I,I,trivial⟩ (fun _ h=>by
       have aa:=(h.pick [0,0,0,0,0,1] rfl).ve (x:=x.fg b p);exact aa.pick [1,0] I) trivial
     ·have wx:=afJ (q:=rD.abs) HU hu;refine J.skip<|al.aE<|al.code<|J.rg 2 I<|b1 I I I (r:=((j+1:Nat):Int)) (bm (by omega))<|ac I I<|U.end_ ?_;exact al.back (j+1) ⟨I,I,I,I,I,I,I,trivial⟩ (fun _ h=>h.pick [1,1] I) ⟨by omega,fun rz q EN aM=>by
       by_cases QW:rz=j
       ·subst QW;rw[Js] at aM;obtain rfl:=er aM;exact wx
       ·exact ga rz q (by omega) aM⟩ (by omega)
   ·obtain rfl:j=bU.bO.length:=by omega
    refine J.exit I ?_;exact al.join () ⟨I,I,I,I,trivial⟩ (fun _ h=>by
     have as0:vt (x.abs.bU b).bO p=false:=by
      rw[Du];exact afp (fun j q aM=>ga j q (by have:=(j6.1 aM).1;unfold cn.abs at this;simpa using this) aM)
     have e:x.fg b p=x:=by unfold bS.fg;rw[as0];rfl
     rw[e];exact h) trivial
  ·intro _ _;refine J.aw 3 I<|ac I I<|li [1,0] (M:=[ff g (x.fg b p)]) (R:=[aE fb 38 #[.int .i64 b,.int .i64 p]]) (X:=aN×Nat) (v:=fun z=>.slice z.1 x.bq.length z.2) (pf:=fun z=>x.bq.length≤z.2) (fS:=fun z=>[own 43 5 z.1 x.bq.length z.2 (x.bq.flatMap cr.row),ff g (x.fg b p).tick]) I I I I I (fun dK ar cy kE=>Tq dK g (x.fg b p) (adn af b p) ar kE) (fun _ _ _=>trivial)<|fun z as5=>ak I I<|U.bl 3 I<|ac I I<|dh I I I I (fun aZ hw=>Nx A l.length c l aZ (bV _ hw.b6) (by omega)) aJ<|fun e8 S4=>ak I I<|U.next<|J.seq<|J.aw 3 I<|ac I I<|cf I I<|ac I I<|U.next<|J.block<|J.loop (G:=Nat) (fun j=>[(0,.pointer (some ⟨g,0,none⟩)),(2,.slice A l.length c),(4,.pointer (some ⟨fb,0,none⟩)),(7,.pointer (some ⟨ob bU.A,0+k*3,none⟩)),(11,.slice z.1 x.bq.length z.2),(12,.slice e8.1 l.length e8.2),(85,.slice z.1 x.bq.length z.2),(86,.int .i64 (x.bq.length:Nat)),(87,.int .i64 (j:Nat))]) (fun j=>au F w [own 5 1 e8.1 l.length e8.2 (aA .u8 (fK (x.bq.take j) l)),own 43 5 z.1 x.bq.length z.2 (x.bq.flatMap cr.row),ff g (x.fg b p).tick,aE fb 38 #[.int .i64 b,.int .i64 p]]) (fun j=>j≤x.bq.length) (fun j=>x.bq.length- j) 0 ⟨I,I,I,I,I,I,I,I,I,trivial⟩ (fun _ h=>h.pick [0,0,0,0] I) (dg _) ?_;intro j ax;refine J.aw 1 I<|cQ I I I I<|U.next<|J.seq ?_;refine J.test I (fun ag=>?_) (fun ag=>?_)
   ·have l7:j<x.bq.length:=by omega
    have bg:=vp l7;have qO:=Zd (O3 l7);have dT:=at3 (b:=l) l7;obtain⟨js,uL⟩:=Oz (x.bq.take j) l;have zu:=uL fq;have rb:=Vd af qO;refine J.skip<|al.code<|J.seq<|J.block<|J.aw 4 I<|fH j (fun w hw=>(hw.has (i:=1) I).dw) I I I I l7<|pj (cs:=(bH x.bq j).row) I I I (fun w hw=>((hw.has (i:=1) I).dw).rowAt Dz bg (by omega))<|gg I aJ<|fun aoi=>fE 0 I I (by kernel_rfl) I I I I aJ<|U.bl 3 I<|bd I I<|c5 I I (v:=.int .i64 (bH x.bq j).kind) (fun _ hw=>hw.cP (i:=0) (j:=1) I I)<|gy I I I I<|U.next ?_;refine J.test I (fun Pu=>?_) (fun Pu=>?_)
    ·have pt:tF (fK (x.bq.take j) l) (bH x.bq j)=e6 (fK (x.bq.take j) l) (bH x.bq j).bits:=by
      unfold tF;rw[aD Pu]
     exact J.rg 4 I<|ac I I<|bd I I<|c5 I I (v:=.slice (bH x.bq j).A (bH x.bq j).bits.length (bH x.bq j).c) (fun _ hw=>hw.cP (i:=0) (j:=4) I I)<|li [1,0,0,0,0] (M:=[own 5 1 e8.1 l.length e8.2 (aA .u8 (fK (x.bq.take j) l))]) (R:=[aE aoi 43 #[.int .i64 (bH x.bq j).op,.int .i64 (bH x.bq j).kind,.int .i64 (bH x.bq j).level,.int .i64 (bH x.bq j).n,.slice (bH x.bq j).A (bH x.bq j).bits.length (bH x.bq j).c],own 43 5 z.1 x.bq.length z.2 (x.bq.flatMap cr.row),ff g (x.fg b p).tick,aE fb 38 #[.int .i64 b,.int .i64 p]]) (X:=Unit) (v:=fun _=>oneOf []) (pf:=fun _=>True) (fS:=fun _=>[own 5 1 e8.1 l.length e8.2 (aA .u8 (e6 (fK (x.bq.take j) l) (bH x.bq j).bits))]) I I I I I (fun dK ar cy kE=>by have:=Kr dK e8.1 e8.2 (fK (x.bq.take j) l) (bH x.bq j).A (bH x.bq j).c (bH x.bq j).bits ar zu (by rw[js];omega) (fun aZ aI=>OO (x:=(x.fg b p).tick) ((cy aZ aI).has (i:=2) rfl) qO) rb (by rw[js];exact kE);rw[js] at this;exact this) (fun _ _ _=>trivial)<|fun _ _=>U.end_<|al.aE<|al.code<|J.rg 2 I<|b1 I I I (r:=((j+1:Nat):Int)) (bm (by omega))<|ac I I<|U.end_<|al.back (j+1) ⟨I,I,I,I,I,I,I,I,I,trivial⟩ (fun _ h=>by rw[dT,pt];exact h.pick [0,1,1,1] I) (by omega) (by omega)
    ·have atS:tF (fK (x.bq.take j) l) (bH x.bq j)=fK (x.bq.take j) l:=by
      unfold tF;rw[az Pu]
     exact J.skip<|al.aE<|al.code<|J.rg 2 I<|b1 I I I (r:=((j+1:Nat):Int)) (bm (by omega))<|ac I I<|U.end_<|al.back (j+1) ⟨I,I,I,I,I,I,I,I,I,trivial⟩ (fun _ h=>by rw[dT,atS];exact h.pick [1,1,1,1] I) (by omega) (by omega)
   ·obtain rfl:j=x.bq.length:=by omega
    rw[m4];obtain⟨js,uL⟩:=Oz x.bq l;have zu:=uL fq;refine J.exit I<|al.code<|J.aw 6 I<|ac I I<|bI I I<|bd I I<|c5 I I (v:=.int .i64 x.size) (fun _ hw=>qo (x:=(x.fg b p).tick) (hw.has (i:=2) I) I)<|ak I I<|ak I I<|U.next ?_;refine J.cut (G:=Unit) (fun _=>[(0,.pointer (some ⟨g,0,none⟩)),(2,.slice A l.length c),(4,.pointer (some ⟨fb,0,none⟩)),(7,.pointer (some ⟨ob bU.A,0+k*3,none⟩)),(12,.slice e8.1 l.length e8.2),(15,.int .i64 (gx x.abs.eW x.size).1),(16,u0 e (gx x.abs.eW x.size).2)]) (fun _=>au F w [own 5 1 e8.1 l.length e8.2 (aA .u8 (fK x.bq l)),ff g {(x.fg b p).tick with off:=(fa x.bq 3).isSome}]) (fun _=>True) ?_ ?_
    ·refine J.aw 8 I<|ac I I<|bJ I I I I (fun w hw=>Qa z.1 z.2 x.bq 3 w ((hw.has (i:=1) I).dw) JZ) aJ<|ac I I<|cB I I I<|cB I I I<|gg I aJ<|fun an9=>fE 0 I I (by kernel_rfl) I I I I aJ<|ak I I<|U.bl 1 I<|ac I I<|U.next ?_;refine J.cond I (fun mQ=>?_) (fun mQ=>?_)
     ·obtain⟨f,aI⟩:=Ji.1 mQ;have q9:=aid aI x.size;refine J.pre (fun _ h=>(h.pick [3,0,0,0,0] I).w4)<|J.dQ (bW [0,1,2,3,4,5,6,7] (cj [8] .done)) (au F w [aE an9 43 (fa x.bq 3|>.getD cr.hj).row.toArray]) mixed (by kernel_rfl) (fun _ h=>h.drew) (fun _ h=>h.pick [5] I)<|ac I I<|bd I I<|dc I I (v:=.int .i64 f.n) (fun _ hw=>hw.cP (i:=0) (j:=3) I (by rw[aI];rfl))<|dc rfl rfl (fun _ h=>vd _ h.b6)<|ak rfl rfl<|ak rfl rfl<|bI rfl rfl<|bd rfl rfl<|eh 0 rfl rfl rfl rfl rfl (by show 7<9;decide) (fun _ h=>h.pick [5] rfl)<|U.end_ ?_;exact al.join () ⟨I,I,I,I,I,by rw[q9];rfl,by rw[q9];rfl,trivial⟩ (fun _ h=>by
       have aa:=(h.pick [0,0,0,0,0,1] rfl).ve (x:={(x.fg b p).tick with off:=true});rw[mQ];exact aa.pick [1,0] I) trivial
     ·have UJ:fa x.bq 3=none:=by
       cases c6:fa x.bq 3 with
       |none=>rfl
       |some f=>rw[c6] at mQ;cases mQ
      refine J.aw 8 I<|ac I I<|bJ I I I I (fun w hw=>Qa z.1 z.2 x.bq 2 w ((hw.has (i:=2) I).dw) JZ) aJ<|ac I I<|cB I I I<|cB I I I<|gg I aJ<|fun aja=>fE 0 I I (by kernel_rfl) I I I I aJ<|ak I I<|U.bl 1 I<|ac I I<|U.next ?_;refine J.cond I (fun HY=>?_) (fun HY=>?_)
      ·obtain⟨f,aI⟩:=Ji.1 HY;have q9:=aql UJ aI x.size;refine J.dQ (bW [0,1,2,3,4] .done) (au F w [aE aja 43 (fa x.bq 2|>.getD cr.hj).row.toArray]) mixed (by kernel_rfl) (fun _ h=>h.drew) (fun _ h=>h.pick [0] I)<|bd I I<|dc I I (v:=.int .i64 f.n) (fun _ hw=>hw.cP (i:=0) (j:=3) I (by rw[aI];rfl))<|dc rfl rfl (fun _ h=>asq _ h.b6)<|ak rfl rfl<|ak rfl rfl<|U.end_ ?_;exact al.join () ⟨I,I,I,I,I,by rw[q9];rfl,by rw[q9];rfl,trivial⟩ (fun _ h=>by
        have aa:=h.pick [2,3] rfl;have e:({(x.fg b p).tick with off:=(fa x.bq 3).isSome}:bS)=(x.fg b p).tick:=by
         rw[mQ];have av:(x.fg b p).tick.off=false:=vx;rw[←av]
        rw[e];exact aa) trivial
      ·have Dq:fa x.bq 2=none:=by
        cases c6:fa x.bq 2 with
        |none=>rfl
        |some f=>rw[c6] at HY;cases HY
       have q9:=alH UJ Dq x.size;refine J.skip ?_;exact al.join () ⟨I,I,I,I,I,by rw[q9];rfl,by rw[q9];rfl,trivial⟩ (fun _ h=>by
        have aa:=h.pick [2,3] rfl;have e:({(x.fg b p).tick with off:=(fa x.bq 3).isSome}:bS)=(x.fg b p).tick:=by
         rw[mQ];have av:(x.fg b p).tick.off=false:=vx;rw[←av]
        rw[e];exact aa) trivial
    ·intro _ _;refine J.seq<|J.seq ?_;have axP:(((ht (gx x.abs.eW x.size).1 x.size):Nat):Int)≤max x.size 0:=apz;have kQ:bZ.l.length≤(fK x.bq l).length:=by rw[js];omega
     refine J.rg 8 I<|ac I I<|LY I I I (r:=(if(0:Int)>(gx x.abs.eW x.size).1 then 0 else(gx x.abs.eW x.size).1)) I<|ac I I<|bI I I<|bd I I<|c5 I I (v:=.int .i64 x.size) (fun _ hw=>qo (x:={(x.fg b p).tick with off:=(fa x.bq 3).isSome}) (hw.has (i:=1) I) I)<|wL I I I (r:=(((ht (gx x.abs.eW x.size).1 x.size):Nat):Int)) (asp (by omega)) ?_;refine U.pre (ec:=au F w [bZ.sy,bZ.pA,bU.rows,c1 ((bU.bO.map cH.dM).eraseIdx k),c1 ((x.blocks.map cn.dM).eraseIdx i),({(x.fg b p).tick with off:=(fa x.bq 3).isSome}:bS).aW g,({(x.fg b p).tick with off:=(fa x.bq 3).isSome}:bS).lX,({(x.fg b p).tick with off:=(fa x.bq 3).isSome}:bS).sm,({(x.fg b p).tick with off:=(fa x.bq 3).isSome}:bS).fst,own 5 1 e8.1 l.length e8.2 (aA .u8 (fK x.bq l))]) (fun _ h=>by
      have aB:=(h.pick [1,0] rfl).w4;have aa:=aB.pick [2,0,0,0,0,0] rfl;exact aa.amO ij kV) ?_
     refine ac I I<|U.next<|J.block<|J.loop (G:=Nat) (fun j=>[(0,.pointer (some ⟨g,0,none⟩)),(2,.slice A l.length c),(4,.pointer (some ⟨fb,0,none⟩)),(7,.pointer (some ⟨ob bU.A,0+k*3,none⟩)),(12,.slice e8.1 l.length e8.2),(16,u0 e (gx x.abs.eW x.size).2),(130,.int .i64 (((ht (gx x.abs.eW x.size).1 x.size):Nat):Int)),(131,.int .i64 (j:Nat))]) (fun j=>au F w [own 5 1 bZ.A bZ.l.length bZ.c (aA .u8 (hA j bZ.l (fK x.bq l))),bZ.pA,bU.rows,c1 ((bU.bO.map cH.dM).eraseIdx k),c1 ((x.blocks.map cn.dM).eraseIdx i),({(x.fg b p).tick with off:=(fa x.bq 3).isSome}:bS).aW g,({(x.fg b p).tick with off:=(fa x.bq 3).isSome}:bS).lX,({(x.fg b p).tick with off:=(fa x.bq 3).isSome}:bS).sm,({(x.fg b p).tick with off:=(fa x.bq 3).isSome}:bS).fst,own 5 1 e8.1 l.length e8.2 (aA .u8 (fK x.bq l))]) (fun j=>j≤(ht (gx x.abs.eW x.size).1 x.size)) (fun j=>(ht (gx x.abs.eW x.size).1 x.size)- j) 0 ⟨I,I,I,I,I,I,I,I,trivial⟩ (fun _ h=>by rw[apt];exact h) (dg _) ?_;intro j ax;have rJ:=NN (m:=j) kQ;refine J.aw 1 I<|cQ I I I I<|U.next<|J.seq ?_;refine J.test I (fun ag=>?_) (fun ag=>?_)
     ·have l7:j<(ht (gx x.abs.eW x.size).1 x.size):=by omega
      have DR:j<bZ.l.length:=by omega
      have dT:=aoM (m:=j) kQ DR;have aiL:=Y0 (m:=j) kQ tn;exact J.skip<|al.code<|J.seq<|J.block<|J.aw 2 I<|ac I I<|ak I I<|U.next<|J.dQ (bW [0,1,2,3,4,5,7,8,9,10] (cj [6] (bW [11,12] (cj [13] .done)))) (au F w [bU.rows,own 5 1 e8.1 l.length e8.2 (aA .u8 (fK x.bq l))]) mixed (by kernel_rfl) (fun _ h=>h.drew) (fun _ h=>h.pick [2,8] I)<|ac I I<|bI I I<|bd I I<|dc I I (v:=.slice bZ.A bZ.l.length bZ.c) (fun _ hw=>hw.xy (q:=0) (j:=k*3+0) I (DN An kV I))<|ac I I<|gT 0 j I I I I I DR<|ac I I<|ac I I<|gT 9 j I I I I I (by omega)<|dc I I (v:=.int .u8 ((fK x.bq l).getD j 0:Nat)) (fun _ hw=>hw.xy (q:=1) (j:=j) I (KU (by omega)))<|km 0 I I I (KU (by rw[rJ];exact DR))<|dY I I I I (r:=(((hA j bZ.l (fK x.bq l)).getD j 0&&&(fK x.bq l).getD j 0:Nat):Int)) (CH (IU aiL _) (IU zu _))<|gT 0 j I I I I I DR<|pw 0 I I I I I DR (fun _ h=>h.pick [2,8] I)<|U.end_<|al.aE<|al.code<|J.rg 2 I<|b1 I I I (r:=((j+1:Nat):Int)) (bm (by omega))<|ac I I<|U.end_<|al.back (j+1) ⟨I,I,I,I,I,I,I,I,trivial⟩ (fun _ h=>by rw[dT,T0];exact h) (by omega) (by omega)
     ·obtain rfl:j=(ht (gx x.abs.eW x.size).1 x.size):=by omega
      refine J.exit I<|al.code<|J.aw 10 I<|ac I I<|ac I I<|ac I I<|dh I I I I (fun aZ hw=>Nx A l.length c l aZ (bV _ hw.b6) (by omega)) aJ<|fun gJ zM=>bI I I<|bd I I<|FQ 3 (j:=k*3+2) I I I I I (by omega) aJ<|bI I I<|bd I I<|FQ 3 (j:=k*3+1) I I I I I (by omega) aJ<|U.bl 2 I<|ac I I<|ak I I<|U.next<|J.ret ?_;exact al.ret Tryz.results9 I (fun xB hw=>by
       obtain⟨fG,da⟩:=ajQ (l:=l) oz oC p5 ij kV bZ.A bZ.c gJ.1 gJ.2 (r:=(gx x.abs.eW x.size)) rfl;refine⟨({(x.fg b p).tick with off:=(fa x.bq 3).isSome,blocks:=x.blocks.set i {bU with bO:=bU.bO.set k (⟨bZ.A,bZ.c,hA (ht (gx x.abs.eW x.size).1 x.size) bZ.l (fK x.bq l),gJ.1,gJ.2,l,true⟩:cH)}}:bS),by rw[fG];rfl,⟨da,rfl⟩,?_⟩;have aa:=hw.pick [1,0,1,1,1,1,1,1,1] rfl;have bu:(((bU.bO.flatMap cH.row).set (k*3+2) (.bool true)).set (k*3+1) (.slice gJ.1 l.length gJ.2))=(bU.bO.set k (⟨bZ.A,bZ.c,hA (ht (gx x.abs.eW x.size).1 x.size) bZ.l (fK x.bq l),gJ.1,gJ.2,l,true⟩:cH)).flatMap cH.row:=by
        have f1:=En (row:=cH.row) An kV (j:=2) (v:=.bool true) (b:={bZ with used:=true}) (by decide) rfl;have f2:=En (row:=cH.row) An (l:=bU.bO.set k {bZ with used:=true}) (i:=k) (a:={bZ with used:=true}) (b:=(⟨bZ.A,bZ.c,hA (ht (gx x.abs.eW x.size).1 x.size) bZ.l (fK x.bq l),gJ.1,gJ.2,l,true⟩:cH)) (j:=1) (v:=.slice gJ.1 l.length gJ.2) (by rw[Ze nC]) (by decide) (by
         show[Value.slice bZ.A (hA (ht (gx x.abs.eW x.size).1 x.size) bZ.l (fK x.bq l)).length bZ.c,.slice gJ.1 l.length gJ.2,.bool true]=_;rw[rJ];rfl)
        rw[List.set_set] at f2;rw[f2,f1]
       rw[bu] at aa;have ab:au F w [(⟨bZ.A,bZ.c,hA (ht (gx x.abs.eW x.size).1 x.size) bZ.l (fK x.bq l),gJ.1,gJ.2,l,true⟩:cH).sy,(⟨bZ.A,bZ.c,hA (ht (gx x.abs.eW x.size).1 x.size) bZ.l (fK x.bq l),gJ.1,gJ.2,l,true⟩:cH).pA,({bU with bO:=bU.bO.set k (⟨bZ.A,bZ.c,hA (ht (gx x.abs.eW x.size).1 x.size) bZ.l (fK x.bq l),gJ.1,gJ.2,l,true⟩:cH)}:cn).rows,c1 ((bU.bO.map cH.dM).eraseIdx k),c1 ((x.blocks.map cn.dM).eraseIdx i),({(x.fg b p).tick with off:=(fa x.bq 3).isSome}:bS).aW g,({(x.fg b p).tick with off:=(fa x.bq 3).isSome}:bS).lX,({(x.fg b p).tick with off:=(fa x.bq 3).isSome}:bS).sm,({(x.fg b p).tick with off:=(fa x.bq 3).isSome}:bS).fst] xB:=by
        have bD:(hA (ht (gx x.abs.eW x.size).1 x.size) bZ.l (fK x.bq l)).length=bZ.l.length:=rJ;unfold cH.sy cH.pA cn.rows;simp only[bD,m9];exact aa
       have an:=ab.aoq gG nC;have aK:au F w [({(x.fg b p).tick with off:=(fa x.bq 3).isSome,blocks:=x.blocks.set i {bU with bO:=bU.bO.set k (⟨bZ.A,bZ.c,hA (ht (gx x.abs.eW x.size).1 x.size) bZ.l (fK x.bq l),gJ.1,gJ.2,l,true⟩:cH)}}:bS).aW g,({(x.fg b p).tick with off:=(fa x.bq 3).isSome,blocks:=x.blocks.set i {bU with bO:=bU.bO.set k (⟨bZ.A,bZ.c,hA (ht (gx x.abs.eW x.size).1 x.size) bZ.l (fK x.bq l),gJ.1,gJ.2,l,true⟩:cH)}}:bS).lX,({(x.fg b p).tick with off:=(fa x.bq 3).isSome,blocks:=x.blocks.set i {bU with bO:=bU.bO.set k (⟨bZ.A,bZ.c,hA (ht (gx x.abs.eW x.size).1 x.size) bZ.l (fK x.bq l),gJ.1,gJ.2,l,true⟩:cH)}}:bS).p1,({(x.fg b p).tick with off:=(fa x.bq 3).isSome,blocks:=x.blocks.set i {bU with bO:=bU.bO.set k (⟨bZ.A,bZ.c,hA (ht (gx x.abs.eW x.size).1 x.size) bZ.l (fK x.bq l),gJ.1,gJ.2,l,true⟩:cH)}}:bS).sm,({(x.fg b p).tick with off:=(fa x.bq 3).isSome,blocks:=x.blocks.set i {bU with bO:=bU.bO.set k (⟨bZ.A,bZ.c,hA (ht (gx x.abs.eW x.size).1 x.size) bZ.l (fK x.bq l),gJ.1,gJ.2,l,true⟩:cH)}}:bS).fst] xB:=by
        have dl:({(x.fg b p).tick with off:=(fa x.bq 3).isSome,blocks:=x.blocks.set i {bU with bO:=bU.bO.set k (⟨bZ.A,bZ.c,hA (ht (gx x.abs.eW x.size).1 x.size) bZ.l (fK x.bq l),gJ.1,gJ.2,l,true⟩:cH)}}:bS).aW g=({(x.fg b p).tick with off:=(fa x.bq 3).isSome}:bS).aW g:=by unfold bS.aW bS.cells;simp only[m9];rfl
        have ii:({(x.fg b p).tick with off:=(fa x.bq 3).isSome,blocks:=x.blocks.set i {bU with bO:=bU.bO.set k (⟨bZ.A,bZ.c,hA (ht (gx x.abs.eW x.size).1 x.size) bZ.l (fK x.bq l),gJ.1,gJ.2,l,true⟩:cH)}}:bS).lX=({(x.fg b p).tick with off:=(fa x.bq 3).isSome}:bS).lX:=by
         unfold bS.lX;simp only[m9];congr 1;apply jB;intro t;rw[DI tN gG];have kq:({bU with bO:=bU.bO.set k (⟨bZ.A,bZ.c,hA (ht (gx x.abs.eW x.size).1 x.size) bZ.l (fK x.bq l),gJ.1,gJ.2,l,true⟩:cH)}:cn).row=bU.row:=by unfold cn.row;simp only[m9]
         rw[kq,←DI tN gG bU,List.Va ij];rfl
        rw[dl,ii];exact an.pick [1,1,0,0,0] I
       exact aK.ve)
end Go.Proofs.YtcgjepodnfjggaaGreatDoor
end
section
namespace Go.Proofs.YtcgjepodnfjggaaGreatDoor
open Go Go.a6
set_option maxRecDepth 100000
theorem cn.Qi(w:ao)(F:Nat→Prop)(w₀:ao)(L:List bi)(h:au F w₀ L w):au F w₀ (cn.hj.dM::L) w:=by
 have aa:=(h.Ka).iB 98 3;exact au.close_ [cn.hj.rows,c1 (cn.hj.bO.map cH.dM)] aa
def cH.hj:cH:=⟨none,0,[],none,0,[],false⟩
theorem cH.Qi(w:ao)(F:Nat→Prop)(w₀:ao)(L:List bi)(h:au F w₀ L w):au F w₀ (cH.hj.dM::L) w:=by
 have aa:=(h.iB 5 1).iB 5 1;exact au.close_ [cH.hj.sy,cH.hj.pA] aa
theorem _root_.Go.a6.au.many{A:bi}{F:Nat→Prop}{w₀ w:ao}{L:List bi}(bs:∀L,au F w₀ L w→au F w₀ (A::L) w)(h:au F w₀ L w)(n:Nat):au F w₀ (c1 (List.replicate n A)::L) w:=by
 induction n with
 |zero=>exact h.Ka
 |succ n ih=>
  have aa:=bs _ ((au.star (List.replicate n A)).2 ih);exact(au.star (A::List.replicate n A)).1 aa
def im.zero:im:=⟨[],[],false⟩
def jQ.fresh(np sz:Nat):jQ:=⟨List.replicate np (im.bare sz),0,false⟩
def sG(du:List jQ)(m:Int):List jQ:=du.set m.toNat {du.getD m.toNat jQ.hj with marked:=true}
def c7.new(dA np sz e0:Nat)(marked:b3)(dP:List pS):c7:=⟨np,sz,e0,marked.foldl sG (List.replicate dA (jQ.fresh np sz)),dP,0,0,false⟩
theorem XY(du:List jQ)(m:Int):(sG du m).length=du.length:=by unfold sG;rw[List.length_set]
theorem OR:∀(fP:b3) (du:List jQ),(fP.foldl sG du).length=du.length
 |[],_=>rfl
 |m::fP,du=>by rw[rc,OR fP,XY]
theorem auh{np sz:Nat}(fP:b3)(du:List jQ)(h:∀b∈du,b.bO=List.replicate np (im.bare sz))(hm:∀m∈fP,0≤m∧m<(du.length:Int)):∀b∈fP.foldl sG du,b.bO=List.replicate np (im.bare sz):=by
 induction fP generalizing du with
 |nil=>exact h
 |cons m fP ih=>
  rw[rc];refine ih (sG du m) (fun sa ua=>?_) (fun fN Dp=>by rw[XY];exact hm fN (eQ _ Dp));have aa:=hm m (fX ..);unfold sG at ua;rcases u7 ua with ua|rfl
  ·exact h sa ua
  ·show(du.getD m.toNat jQ.hj).bO=_;have bc:m.toNat<du.length:=by omega
   rw[eM,eF bc,kg];exact h _ (sN bc)
theorem agZ{dA np sz e0:Nat}(aa:dA≤64)(ab:1≤np)(an:np≤64)(aK:1≤sz)(bo:sz≤4096)(cd:1≤e0)(nX:e0≤8){marked:b3}(hm:∀m∈marked,0≤m∧m<(dA:Int)){dP:List pS}(aG:dP.length≤1000)(ad:∀f∈dP,f.bits.length≤1000000):(c7.new dA np sz e0 marked dP).Ok:=by
 refine⟨by show(1:Int)≤np;omega,by show(np:Int)≤64;omega,by show(1:Int)≤sz;omega,by show(sz:Int)≤4096;omega,by show(1:Int)≤e0;omega,by show(e0:Int)≤8;omega,?_,fun b ad=>?_,aG,ad⟩
 ·show(marked.foldl sG (List.replicate dA (jQ.fresh np sz))).length≤64;rw[OR,jI];exact aa
 ·have fq:=auh (np:=np) (sz:=sz) marked (List.replicate dA (jQ.fresh np sz)) (fun b ad=>by rw[JV ad];rfl) (fun m Dp=>by rw[jI];exact hm m Dp) b ad;rw[fq];refine⟨by rw[jI];rfl,fun p aG=>?_⟩;rw[JV aG];refine⟨by show((List.replicate sz 255).length:Int)=sz;rw[jI],fun t bb=>?_,dg _,fun t bb=>absurd bb we⟩;rw[JV bb];decide
end Go.Proofs.YtcgjepodnfjggaaGreatDoor
end
section
namespace Go.Proofs.YtcgjepodnfjggaaGreatDoor
open Go Go.a6 Go.cv
set_option maxRecDepth 100000
theorem _root_.Go.a6.au.JO{F:Nat→Prop}{w₀ w:ao}{L:List bi}{i g T o:Nat}{cs:cJ}{part:cw}(hi:L[i]?=some (aE g T cs))(aG:∀j v,part[j]?=some v→cs[o+j]?=some v)(h:au F w₀ L w):∀j v,part[j]?=some v→w.cell? ⟨g,o+j,none⟩=some v:=fun j v ax=>h.cP hi (aG j v ax)
instance axa:dN Tryz.prog 88 87 2 16 (.agg #[.int .i64 0,.int .i64 0]):=dN.mk' Tryz.underlying88 (by kernel_rfl)
theorem IZ{cs:cJ}{o:Nat}{a b:aV}(aB:cs[o]?=some a)(aa:cs[o+1]?=some b):∀j v,[a,b][j]?=some v→cs[o+j]?=some v:=fun j v ax=>by
 match j,ax with
 |0,ax=>rw[←ax];exact aB
 |1,ax=>rw[←ax];exact aa
 |j+2,ax=>simp at ax
theorem _root_.Go.a6.au.ahj{ps:List cH}{k:Nat}{p:cH}{F:Nat→Prop}{w₀ w:ao}{L:List bi}{A:aN}{c:Nat}{l:ae}(aG:ps[k]?=some p)(h:au F w₀ (c1 (ps.map cH.dM)::own 5 1 A l.length c (aA .u8 l)::L) w):au F w₀ (c1 ((ps.set k {p with A:=A,c:=c,l:=l}).map cH.dM)::L) w:=by
 have aa:=(h.focus (i:=k) (A:=p.dM) (by rw[jj,aG];rfl)).open_;have ab:au F w₀ (p.pA::c1 ((ps.map cH.dM).eraseIdx k)::own 5 1 A l.length c (aA .u8 l)::L) w:=aa.tail;have an:au F w₀ (own 5 1 A l.length c (aA .u8 l)::p.pA::c1 ((ps.map cH.dM).eraseIdx k)::L) w:=ab.perm ((List.Perm.cons _ (List.Perm.swap ..)).trans (List.Perm.swap ..));have aK:=(au.close_ [own 5 1 A l.length c (aA .u8 l),p.pA] an).HP (c8:=({p with A:=A,c:=c,l:=l}:cH).dM) (by simpa using(j6.1 aG).1);rw[←vj] at aK;exact aK
theorem abi{α β:Type}{f:α→β}{xs:List α}{j n:Nat}{a b:β}{z:α}(h:xs.map f=List.replicate j a++List.replicate (n- j) b)(ax:j<n)(aL:f z=a):(xs.set j z).map f=List.replicate (j+1) a++List.replicate (n- (j+1)) b:=by
 rw[vj,h,aL,List.set_append_right _ _ (by simp),jI,rL,show n- j=(n- (j+1))+1 by omega,GS,wD,List.replicate_succ',rZ];rfl
theorem ZJ{α β:Type}{f:α→β}{xs:List α}{j n:Nat}{a b:β}(h:xs.map f=List.replicate j a++List.replicate (n- j) b)(ax:j≤n):xs.length=n:=by
 have:=ql List.length h;simp only[iK,ee,jI] at this;omega
theorem Wx{α β:Type}{f:α→β}{xs:List α}{j n:Nat}{a b:β}(h:xs.map f=List.replicate j a++List.replicate (n- j) b)(ax:j<n){x:α}(af:xs[j]?=some x):f x=b:=by
 have aa:=ql (fun l=>l[j]?) h;simp only[jj,af,gv] at aa;rw[mg (by simp),jI,rL,Iu,aD (by omega)] at aa;exact er aa
set_option maxHeartbeats 3200000 in
theorem Yu(dA np sz e0:Nat)(Be:aN)(Fq:Nat)(fP:b3)(pg:aN)(c0:Nat)(pl:List cr)(e:Nat→Addr)(w:ao)(aa:1≤dA∧dA≤64)(ab:1≤np∧np≤64)(an:1≤sz∧sz≤4096)(aK:1≤e0∧e0≤8)(kE:Has (aP 1 Be fP.length (ints .i64 fP)) w)(ic:fP.length≤1000000)(arZ:∀m∈fP,0≤m∧m<(dA:Int))(c4:gI e w 10)(gp:vY pg pl w)(awJ:pl.length≤1000):fh Tryz.prog 8 [.int .i64 (dA:Nat),.int .i64 (np:Nat),.int .i64 (sz:Nat),.int .i64 (e0:Nat),.slice Be fP.length Fq,.slice pg pl.length c0] w (X:=Nat×bS) (fun z=>two (.pointer (some ⟨z.1,0,none⟩)) .nilIface) (fun z=>z.2.abs=c7.new dA np sz e0 fP (pl.map cr.abs)∧z.2.watch=.nilFunc) (fun z=>[ff z.1 z.2]):=by
 refine b8 Tryz.func8 I Tryz.ntmps8 I<|J.aw 2 I<|ak I I<|ak I I<|U.next<|J.seq<|J.aw 11 I<|ac I I<|A5 I I (cells:= #[.int .i64 ((dA:Nat):Int),.int .i64 64]) (by kernel_rfl)<|ac I I<|A5 I I (cells:= #[.int .i64 ((np:Nat):Int),.int .i64 64]) (by kernel_rfl)<|ac I I<|A5 I I (cells:= #[.int .i64 ((sz:Nat):Int),.int .i64 4096]) (by kernel_rfl)<|ac I I<|A5 I I (cells:= #[.int .i64 ((e0:Nat):Int),.int .i64 8]) (by kernel_rfl)<|ja I I (cells:= #[.int .i64 ((dA:Nat):Int),.int .i64 64,.int .i64 ((np:Nat):Int),.int .i64 64,.int .i64 ((sz:Nat):Int),.int .i64 4096,.int .i64 ((e0:Nat):Int),.int .i64 8]) (by kernel_rfl) I aJ<|fun g0=>cf I I<|ac I I<|U.next<|J.block<|J.loop (G:=Nat) (fun i=>[(0,.int .i64 (((dA:Nat):Int))),(1,.int .i64 (((np:Nat):Int))),(2,.int .i64 (((sz:Nat):Int))),(3,.int .i64 (((e0:Nat):Int))),(4,.slice Be fP.length Fq),(5,.slice pg pl.length c0),(30,.slice (some ⟨g0,0,none⟩) 4 4),(31,.int .i64 4),(32,.int .i64 (i:Nat))]) (fun _=>bF w [aE g0 87 #[.int .i64 ((dA:Nat):Int),.int .i64 64,.int .i64 ((np:Nat):Int),.int .i64 64,.int .i64 ((sz:Nat):Int),.int .i64 4096,.int .i64 ((e0:Nat):Int),.int .i64 8]]) (fun i=>i≤4) (fun i=>4- i) 0 ⟨I,I,I,I,I,I,I,I,I,trivial⟩ (fun _ h=>h) (by omega) ?_;intro i hi;refine J.aw 1 I<|cQ I I I I<|U.next<|J.seq ?_;refine J.test I (fun ag=>?_) (fun ag=>?_)
 ·have awC:i<4:=by omega
  refine J.skip<|al.code<|J.seq<|J.block<|J.seq ?_;rcases(show i=0∨i=1∨i=2∨i=3 by omega) with rfl|rfl|rfl|rfl
  ·exact J.rg 4 I<|uD I I I (by omega)<|pj (cs:=[.int .i64 ((dA:Nat):Int),.int .i64 64]) I I I (fun w hw=>hw.JO (i:=0) I (IZ I I))<|gg I aJ<|fun A9=>fE 0 I I (by kernel_rfl) I I I I aJ<|U.bl 10 I<|n0 0 I I I I (by omega)<|cm 0 I I I (v:=.int .i64 ((dA:Nat):Int)) I<|cQ I I I (df (by omega))<|ac I I<|n0 0 I I I I (by omega)<|cm 0 I I I (v:=.int .i64 ((dA:Nat):Int)) I<|n0 1 I I I I (by omega)<|cm 0 I I I (v:=.int .i64 64) I<|fD I I I (df (by omega))<|ef I I I<|U.next<|J.dy I<|J.skip<|al.aE<|al.code<|J.rg 2 I<|b1 I I I (r:=((1:Nat):Int)) I<|ac I I<|U.end_<|al.back 1 ⟨I,I,I,I,I,I,I,I,I,trivial⟩ (fun _ h=>h.pick [1] I) (by omega) (by omega)
  ·exact J.rg 4 I<|uD I I I (by omega)<|pj (cs:=[.int .i64 ((np:Nat):Int),.int .i64 64]) I I I (fun w hw=>hw.JO (i:=0) I (IZ I I))<|gg I aJ<|fun A9=>fE 0 I I (by kernel_rfl) I I I I aJ<|U.bl 10 I<|n0 0 I I I I (by omega)<|cm 0 I I I (v:=.int .i64 ((np:Nat):Int)) I<|cQ I I I (df (by omega))<|ac I I<|n0 0 I I I I (by omega)<|cm 0 I I I (v:=.int .i64 ((np:Nat):Int)) I<|n0 1 I I I I (by omega)<|cm 0 I I I (v:=.int .i64 64) I<|fD I I I (df (by omega))<|ef I I I<|U.next<|J.dy I<|J.skip<|al.aE<|al.code<|J.rg 2 I<|b1 I I I (r:=((2:Nat):Int)) I<|ac I I<|U.end_<|al.back 2 ⟨I,I,I,I,I,I,I,I,I,trivial⟩ (fun _ h=>h.pick [1] I) (by omega) (by omega)
  ·exact J.rg 4 I<|uD I I I (by omega)<|pj (cs:=[.int .i64 ((sz:Nat):Int),.int .i64 4096]) I I I (fun w hw=>hw.JO (i:=0) I (IZ I I))<|gg I aJ<|fun A9=>fE 0 I I (by kernel_rfl) I I I I aJ<|U.bl 10 I<|n0 0 I I I I (by omega)<|cm 0 I I I (v:=.int .i64 ((sz:Nat):Int)) I<|cQ I I I (df (by omega))<|ac I I<|n0 0 I I I I (by omega)<|cm 0 I I I (v:=.int .i64 ((sz:Nat):Int)) I<|n0 1 I I I I (by omega)<|cm 0 I I I (v:=.int .i64 4096) I<|fD I I I (df (by omega))<|ef I I I<|U.next<|J.dy I<|J.skip<|al.aE<|al.code<|J.rg 2 I<|b1 I I I (r:=((3:Nat):Int)) I<|ac I I<|U.end_<|al.back 3 ⟨I,I,I,I,I,I,I,I,I,trivial⟩ (fun _ h=>h.pick [1] I) (by omega) (by omega)
  ·exact J.rg 4 I<|uD I I I (by omega)<|pj (cs:=[.int .i64 ((e0:Nat):Int),.int .i64 8]) I I I (fun w hw=>hw.JO (i:=0) I (IZ I I))<|gg I aJ<|fun A9=>fE 0 I I (by kernel_rfl) I I I I aJ<|U.bl 10 I<|n0 0 I I I I (by omega)<|cm 0 I I I (v:=.int .i64 ((e0:Nat):Int)) I<|cQ I I I (df (by omega))<|ac I I<|n0 0 I I I I (by omega)<|cm 0 I I I (v:=.int .i64 ((e0:Nat):Int)) I<|n0 1 I I I I (by omega)<|cm 0 I I I (v:=.int .i64 8) I<|fD I I I (df (by omega))<|ef I I I<|U.next<|J.dy I<|J.skip<|al.aE<|al.code<|J.rg 2 I<|b1 I I I (r:=((4:Nat):Int)) I<|ac I I<|U.end_<|al.back 4 ⟨I,I,I,I,I,I,I,I,I,trivial⟩ (fun _ h=>h.pick [1] I) (by omega) (by omega)
 ·skip;refine J.exit I<|al.code<|J.aw 8 I<|ac I I<|ac I I<|ac I I<|ac I I<|acI dA (sz:=3) (by_:=40) (zv:=.agg #[.slice none 0 0,.int .i64 0,.bool false]) I I I I I (by decide) (by unfold maxLen;omega) aJ<|fun fB=>gl rfl rfl (cells:= #[.int .i64 ((np:Nat):Int),.int .i64 ((sz:Nat):Int),.int .i64 ((e0:Nat):Int),.slice (some ⟨fB,0,none⟩) dA dA,.slice none 0 0,.int .i64 0,.int .i64 0,.bool false,.nilFunc]) (by kernel_rfl)<|fx rfl rfl aJ<|fun g=>ak rfl rfl<|U.next<|J.seq<|J.aw 6 rfl<|ac rfl rfl<|bI rfl rfl<|bd rfl rfl<|c5 rfl rfl (v:=.slice (some ⟨fB,0,none⟩) dA dA) (fun _ hw=>hw.cP (i:=0) (j:=3) rfl rfl)<|cf rfl rfl<|ac rfl rfl<|U.next<|J.block ?_;refine J.loop (G:=Nat×List cn) (fun q=>[(1,.int .i64 ((np:Nat):Int)),(2,.int .i64 ((sz:Nat):Int)),(4,.slice Be fP.length Fq),(5,.slice pg pl.length c0),(16,.pointer (some ⟨g,0,none⟩)),(59,.int .i64 ((dA:Nat):Int)),(60,.int .i64 (q.1:Nat))]) (fun q=>bF w [aE g 92 #[.int .i64 ((np:Nat):Int),.int .i64 ((sz:Nat):Int),.int .i64 ((e0:Nat):Int),.slice (some ⟨fB,0,none⟩) dA dA,.slice none 0 0,.int .i64 0,.int .i64 0,.bool false,.nilFunc],own 95 3 (some ⟨fB,0,none⟩) dA dA (q.2.flatMap cn.row),c1 (q.2.map cn.dM)]) (fun q=>q.1≤dA∧q.2.map cn.abs=List.replicate q.1 (jQ.fresh np sz)++List.replicate (dA- q.1) jQ.hj) (fun q=>dA- q.1) (0,List.replicate dA cn.hj) ⟨I,I,I,I,I,I,I,trivial⟩ (fun _ h=>by
   have aa:=h.pick [0,0] rfl;have ab:=au.many (fun L h=>cn.Qi _ _ _ L h) aa dA;rw[←DL] at ab;have e:=IA (row:=cn.row) cn.hj dA;have an:=ab.pick [1,1,0] rfl;simp only;rw[e];exact an) ⟨dg _,by rw[DL];rfl⟩ ?_
  rintro⟨i,du⟩ ⟨hi,xh⟩;simp only at hi xh;dsimp only;have k7:=ZJ xh hi;refine J.aw 1 I<|cQ I I I I<|U.next<|J.seq ?_;refine J.test I (fun ag=>?_) (fun ag=>?_)
  ·have gG:i<dA:=by omega
   obtain⟨kU,iL⟩:∃kU,du[i]?=some kU:=⟨_,eF (by omega)⟩;have ab6:=Wx xh gG iL;refine J.skip<|al.code<|J.seq<|J.block<|J.aw 2 I<|ac I I<|ak I I<|U.next<|J.seq<|J.dQ (bW [0,1,2,3,4,5] (cj [6] (bW [7,8] (cj [9] .done)))) (bF w [aE g 92 #[.int .i64 ((np:Nat):Int),.int .i64 ((sz:Nat):Int),.int .i64 ((e0:Nat):Int),.slice (some ⟨fB,0,none⟩) dA dA,.slice none 0 0,.int .i64 0,.int .i64 0,.bool false,.nilFunc]]) mixed (by kernel_rfl) (fun _ h=>h.drew) (fun _ h=>h.pick [0] I)<|ac I I<|bI I I<|bd I I<|dc I I (v:=.slice (some ⟨fB,0,none⟩) dA dA) (fun _ hw=>hw.cP (i:=0) (j:=3) I I)<|ac I I<|ac I I<|acI np (sz:=3) (by_:=56) (zv:=.agg #[.slice none 0 0,.slice none 0 0,.bool false]) I I I I I (by decide) (by unfold maxLen;omega) (fun _ h=>h.pick [0] rfl)<|fun hY=>K4 2 i rfl rfl rfl rfl rfl gG<|bd rfl rfl<|FQ 2 (j:=i*3+0) rfl rfl rfl rfl rfl (by omega) (fun _ h=>h.pick [1] rfl)<|U.next<|J.seq ?_;have Zp:(du.set i ({kU with A:=some ⟨hY,0,none⟩,c:=np,bO:=List.replicate np cH.hj}:cn))[i]?=some ({kU with A:=some ⟨hY,0,none⟩,c:=np,bO:=List.replicate np cH.hj}:cn):=by rw[Ze (by omega)]
   refine J.pre (ec:=bF w [own 98 3 (some ⟨hY,0,none⟩) np np ((List.replicate np cH.hj).flatMap cH.row),c1 ((List.replicate np cH.hj).map cH.dM),aE g 92 #[.int .i64 ((np:Nat):Int),.int .i64 ((sz:Nat):Int),.int .i64 ((e0:Nat):Int),.slice (some ⟨fB,0,none⟩) dA dA,.slice none 0 0,.int .i64 0,.int .i64 0,.bool false,.nilFunc],own 95 3 (some ⟨fB,0,none⟩) dA dA ((du.set i ({kU with A:=some ⟨hY,0,none⟩,c:=np,bO:=List.replicate np cH.hj}:cn)).flatMap cn.row),c1 ((du.map cn.dM).eraseIdx i)]) (fun _ h=>by
    have aa:=h.pick [3,0,0,0] rfl;have ab:=(aa.focus (i:=i) (A:=kU.dM) (by rw[jj,iL];rfl)).tail;have an:=au.many (fun L h=>cH.Qi _ _ _ L h) ab np;rw[←DL] at an;have e:=IA (row:=cH.row) cH.hj np;have bD:=En (row:=cn.row) tN iL (j:=0) (v:=.slice (some ⟨hY,0,none⟩) np np) (b:=({kU with A:=some ⟨hY,0,none⟩,c:=np,bO:=List.replicate np cH.hj}:cn)) (by decide) (by unfold cn.row;rw[jI];rfl);rw[e,bD];exact an.pick [2,0,1,1,0] I) ?_
   refine J.rg 10 I<|ac I I<|bI I I<|bd I I<|c5 I I (v:=.slice (some ⟨fB,0,none⟩) dA dA) (fun _ hw=>hw.cP (i:=2) (j:=3) I I)<|ac I I<|fH i (fun w hw=>(hw.has (i:=3) I).dw) I I I I gG<|bd I I<|c5 I I (v:=.slice (some ⟨hY,0,none⟩) np np) (fun _ hw=>((hw.has (i:=3) I).dw).rowAt tN Zp (by omega) 0 _ (by unfold cn.row;rw[jI];rfl))<|cf rfl rfl<|ac rfl rfl<|U.next<|J.block<|J.loop (G:=Nat×List cH) (fun q=>[(1,.int .i64 ((np:Nat):Int)),(2,.int .i64 ((sz:Nat):Int)),(4,.slice Be fP.length Fq),(5,.slice pg pl.length c0),(16,.pointer (some ⟨g,0,none⟩)),(59,.int .i64 ((dA:Nat):Int)),(60,.int .i64 (i:Nat)),(17,.int .i64 (i:Nat)),(80,.int .i64 ((np:Nat):Int)),(81,.int .i64 (q.1:Nat))]) (fun q=>bF w [own 98 3 (some ⟨hY,0,none⟩) np np (q.2.flatMap cH.row),c1 (q.2.map cH.dM),aE g 92 #[.int .i64 ((np:Nat):Int),.int .i64 ((sz:Nat):Int),.int .i64 ((e0:Nat):Int),.slice (some ⟨fB,0,none⟩) dA dA,.slice none 0 0,.int .i64 0,.int .i64 0,.bool false,.nilFunc],own 95 3 (some ⟨fB,0,none⟩) dA dA ((du.set i ({kU with A:=some ⟨hY,0,none⟩,c:=np,bO:=List.replicate np cH.hj}:cn)).flatMap cn.row),c1 ((du.map cn.dM).eraseIdx i)]) (fun q=>q.1≤np∧q.2.map cH.abs=List.replicate q.1 (im.bare sz)++List.replicate (np- q.1) im.hj) (fun q=>np- q.1) (0,List.replicate np cH.hj) ⟨rfl,rfl,rfl,rfl,rfl,rfl,rfl,rfl,rfl,rfl,trivial⟩ (fun _ h=>h) ⟨dg _,by rw[DL];rfl⟩ ?_;rintro⟨k,ps⟩ ⟨ah,iN⟩;simp only at ah iN;dsimp only;have iQ:=ZJ iN ah;refine J.aw 1 I<|cQ I I I I<|U.next<|J.seq ?_;refine J.test I (fun ag=>?_) (fun ag=>?_)
   ·have nC:k<np:=by omega
    obtain⟨cT,iu⟩:∃cT,ps[k]?=some cT:=⟨_,eF (by omega)⟩;have abU:=Wx iN nC iu;refine J.skip<|al.code<|J.seq<|J.block<|J.aw 2 I<|ac I I<|ak I I<|U.next<|J.dQ (bW [0,1,2,3,4,5,6,7,8,9] (cj [10] (bW [11,12] (cj [13] .done)))) (bF w [aE g 92 #[.int .i64 ((np:Nat):Int),.int .i64 ((sz:Nat):Int),.int .i64 ((e0:Nat):Int),.slice (some ⟨fB,0,none⟩) dA dA,.slice none 0 0,.int .i64 0,.int .i64 0,.bool false,.nilFunc],own 95 3 (some ⟨fB,0,none⟩) dA dA ((du.set i ({kU with A:=some ⟨hY,0,none⟩,c:=np,bO:=List.replicate np cH.hj}:cn)).flatMap cn.row)]) mixed (by kernel_rfl) (fun _ h=>h.drew) (fun _ h=>h.pick [2,2] I)<|ac I I<|bI I I<|bd I I<|dc I I (v:=.slice (some ⟨fB,0,none⟩) dA dA) (fun _ hw=>hw.cP (i:=0) (j:=3) I I)<|ac I I<|fH i (fun w hw=>(hw.has (i:=3) I).dw) I I I I gG<|bd I I<|dc I I (v:=.slice (some ⟨hY,0,none⟩) np np) (fun _ hw=>((hw.has (i:=1) I).dw).rowAt tN Zp (by omega) 0 _ (by unfold cn.row;rw[jI];rfl))<|ac rfl rfl<|ac rfl rfl<|dh rfl rfl rfl rfl (fun w hw=>Xa sz w (by omega) (by omega)) (fun _ h=>h.pick [2,2] rfl)<|fun e8 S4=>K4 1 k rfl rfl rfl rfl rfl nC<|bd rfl rfl<|FQ 1 (j:=k*3+0) rfl rfl rfl rfl rfl (by omega) (fun _ h=>h.pick [3,3] rfl)<|U.end_<|al.aE<|al.code<|J.rg 2 rfl<|b1 rfl rfl rfl (r:=((k+1:Nat):Int)) (bm (by omega))<|ac rfl rfl<|U.end_ ?_;exact al.back (k+1,ps.set k ({cT with A:=e8.1,c:=e8.2,l:=List.replicate sz 255}:cH)) ⟨I,I,I,I,I,I,I,I,I,I,trivial⟩ (fun _ h=>by
     have aa:=h.pick [2,0,0,0,0,0] rfl;have ab:=au.ahj iu aa;have bD:=En (row:=cH.row) An iu (j:=0) (v:=.slice e8.1 (List.replicate sz 255).length e8.2) (b:=({cT with A:=e8.1,c:=e8.2,l:=List.replicate sz 255}:cH)) (by decide) rfl;simp only;rw[bD];exact ab.pick [1,0,0,0,0] I) ⟨by simp only;omega,by simp only;exact abi iN nC (by
      unfold cH.abs at abU⊢;injection abU with fG da lK;simp only[da,lK];rfl)⟩ (by simp only;omega)
   ·obtain rfl:np=k:=by omega
    rw[rL,N2,nK] at iN;refine J.exit I<|al.aE<|al.code<|J.rg 2 I<|b1 I I I (r:=((i+1:Nat):Int)) (bm (by omega))<|ac I I<|U.end_ ?_;exact al.back (i+1,du.set i ({kU with A:=some ⟨hY,0,none⟩,c:=np,bO:=ps}:cn)) ⟨I,I,I,I,I,I,I,trivial⟩ (fun xB h=>by
     have aB:bF w [(({kU with A:=some ⟨hY,0,none⟩,c:=np,bO:=ps}:cn)).rows,c1 ((({kU with A:=some ⟨hY,0,none⟩,c:=np,bO:=ps}:cn)).bO.map cH.dM),c1 ((du.map cn.dM).eraseIdx i),aE g 92 #[.int .i64 ((np:Nat):Int),.int .i64 ((sz:Nat):Int),.int .i64 ((e0:Nat):Int),.slice (some ⟨fB,0,none⟩) dA dA,.slice none 0 0,.int .i64 0,.int .i64 0,.bool false,.nilFunc],own 95 3 (some ⟨fB,0,none⟩) dA dA ((du.set i ({kU with A:=some ⟨hY,0,none⟩,c:=np,bO:=List.replicate np cH.hj}:cn)).flatMap cn.row)] xB:=by
      unfold cn.rows;simp only[iQ];exact h.pick [0,0,2,0,0] I
     have aa:=au.agj (by omega) aB;have bD:(du.set i ({kU with A:=some ⟨hY,0,none⟩,c:=np,bO:=List.replicate np cH.hj}:cn)).flatMap cn.row=(du.set i ({kU with A:=some ⟨hY,0,none⟩,c:=np,bO:=ps}:cn)).flatMap cn.row:=by
      rw[DI tN (by omega),DI tN (by omega)];congr 2;unfold cn.row;simp only[iQ,jI]
     simp only;rw[←bD];exact aa.pick [1,1,0] I) ⟨by simp only;omega,by simp only;exact abi xh gG (by
      unfold cn.abs at ab6⊢;injection ab6 with fG da lK;simp only[da,lK,iN];rfl)⟩ (by simp only;omega)
  ·obtain rfl:dA=i:=by omega
   rw[rL,N2,nK] at xh;refine J.exit I<|al.code<|J.seq<|J.aw 3 I<|ac I I<|cf I I<|ac I I<|U.next<|J.block ?_;refine J.loop (G:=Nat×List cn) (fun q=>[(5,.slice pg pl.length c0),(16,.pointer (some ⟨g,0,none⟩)),(99,.slice Be fP.length Fq),(100,.int .i64 (fP.length:Nat)),(101,.int .i64 (q.1:Nat))]) (fun q=>bF w [ff g (⟨(np:Nat),(sz:Nat),(e0:Nat),some ⟨fB,0,none⟩,q.2.length,q.2,none,0,[],0,0,false,.nilFunc⟩:bS)]) (fun q=>(q.1≤fP.length∧q.2.map cn.abs=(fP.take q.1).foldl sG (List.replicate dA (jQ.fresh np sz)))) (fun q=>fP.length- q.1) (0,du) ⟨I,I,I,I,I,trivial⟩ (fun xB h=>by
    have aa:=(h.iB 43 5).Ka;have ab:=aa.pick [2,2,2,1,0] rfl;have an:bF w [(⟨(np:Nat),(sz:Nat),(e0:Nat),some ⟨fB,0,none⟩,du.length,du,none,0,[],0,0,false,.nilFunc⟩:bS).aW g,(⟨(np:Nat),(sz:Nat),(e0:Nat),some ⟨fB,0,none⟩,du.length,du,none,0,[],0,0,false,.nilFunc⟩:bS).lX,(⟨(np:Nat),(sz:Nat),(e0:Nat),some ⟨fB,0,none⟩,du.length,du,none,0,[],0,0,false,.nilFunc⟩:bS).p1,(⟨(np:Nat),(sz:Nat),(e0:Nat),some ⟨fB,0,none⟩,du.length,du,none,0,[],0,0,false,.nilFunc⟩:bS).sm,(⟨(np:Nat),(sz:Nat),(e0:Nat),some ⟨fB,0,none⟩,du.length,du,none,0,[],0,0,false,.nilFunc⟩:bS).fst] xB:=by
     have bu:(⟨(np:Nat),(sz:Nat),(e0:Nat),some ⟨fB,0,none⟩,du.length,du,none,0,[],0,0,false,.nilFunc⟩:bS).aW g=aE g 92 #[.int .i64 ((np:Nat):Int),.int .i64 ((sz:Nat):Int),.int .i64 ((e0:Nat):Int),.slice (some ⟨fB,0,none⟩) dA dA,.slice none 0 0,.int .i64 0,.int .i64 0,.bool false,.nilFunc]:=by unfold bS.aW bS.cells;simp only[k7];try rfl
     have bD:(⟨(np:Nat),(sz:Nat),(e0:Nat),some ⟨fB,0,none⟩,du.length,du,none,0,[],0,0,false,.nilFunc⟩:bS).lX=own 95 3 (some ⟨fB,0,none⟩) dA dA (du.flatMap cn.row):=by unfold bS.lX;simp only[k7];try rfl
     rw[bu,bD];exact ab
    exact an.ve) ⟨dg _,xh⟩ ?_
   rintro⟨j,cs⟩ ⟨ax,k8⟩;simp only at ax k8;dsimp only;have gr:cs.length=dA:=by
    have:=ql List.length k8;rw[iK,OR,jI] at this;exact this
   refine J.aw 1 I<|cQ I I I I<|U.next<|J.seq ?_;refine J.test I (fun ag=>?_) (fun ag=>?_)
   ·have l7:j<fP.length:=by omega
    have VN:fP[j]?=some (fP.getD j 0):=by rw[eM,eF l7];rfl
    obtain⟨EA,Jb⟩:=arZ _ (iF VN);refine J.skip<|al.code<|J.seq<|J.block<|J.aw 3 I<|fH j (fun w hw=>hw.a7 kE) I I I I l7<|jN (fun w hw=>hw.a7 kE) I I (by rw[dJ];exact qv l7) (by omega)<|ak I I<|U.next<|J.seq<|J.aw 4 I<|ac I I<|ac I I<|bJ I I I I (v:=.bool true) (fun w hw=>by have:=X9 g (⟨(np:Nat),(sz:Nat),(e0:Nat),some ⟨fB,0,none⟩,cs.length,cs,none,0,[],0,0,false,.nilFunc⟩:bS) (fP.getD j 0) w (hw.has (i:=0) I);rw[G4,ek (show 0≤(fP.getD j 0)∧(fP.getD j 0)<(((⟨(np:Nat),(sz:Nat),(e0:Nat),some ⟨fB,0,none⟩,cs.length,cs,none,0,[],0,0,false,.nilFunc⟩:bS)).blocks.length:Int) from⟨EA,by show(fP.getD j 0)<(cs.length:Int);omega⟩)] at this;exact this) aJ<|ls I I<|U.next<|J.dy I<|J.skip<|al.code ?_;obtain⟨m,hm⟩:=xX EA;have sh:m<cs.length:=by omega
    obtain⟨lD,oQ⟩:∃lD,cs[m]?=some lD:=⟨_,eF sh⟩;refine J.pre (fun _ h=>h.w4)<|J.rg 8 I<|ac I I<|bI I I<|bd I I<|c5 I I (v:=.slice (some ⟨fB,0,none⟩) cs.length cs.length) (fun _ hw=>hw.cP (i:=0) (j:=3) I I)<|ac I I<|K4 1 m I I I I hm sh<|bd I I<|FQ 1 (j:=m*3+2) I I I I I (by show m*3+2<cs.length*3;omega) aJ<|U.end_<|al.aE<|al.code<|J.rg 2 rfl<|b1 rfl rfl rfl (r:=((j+1:Nat):Int)) (bm (by omega))<|ac rfl rfl<|U.end_ ?_;exact al.back (j+1,(cs.set m {lD with marked:=true})) ⟨I,I,I,I,I,trivial⟩ (fun xB h=>by
     have an:bF w [(⟨(np:Nat),(sz:Nat),(e0:Nat),some ⟨fB,0,none⟩,(cs.set m {lD with marked:=true}).length,(cs.set m {lD with marked:=true}),none,0,[],0,0,false,.nilFunc⟩:bS).aW g,(⟨(np:Nat),(sz:Nat),(e0:Nat),some ⟨fB,0,none⟩,(cs.set m {lD with marked:=true}).length,(cs.set m {lD with marked:=true}),none,0,[],0,0,false,.nilFunc⟩:bS).lX,(⟨(np:Nat),(sz:Nat),(e0:Nat),some ⟨fB,0,none⟩,(cs.set m {lD with marked:=true}).length,(cs.set m {lD with marked:=true}),none,0,[],0,0,false,.nilFunc⟩:bS).p1,(⟨(np:Nat),(sz:Nat),(e0:Nat),some ⟨fB,0,none⟩,(cs.set m {lD with marked:=true}).length,(cs.set m {lD with marked:=true}),none,0,[],0,0,false,.nilFunc⟩:bS).sm,(⟨(np:Nat),(sz:Nat),(e0:Nat),some ⟨fB,0,none⟩,(cs.set m {lD with marked:=true}).length,(cs.set m {lD with marked:=true}),none,0,[],0,0,false,.nilFunc⟩:bS).fst] xB:=by
      have bu:(⟨(np:Nat),(sz:Nat),(e0:Nat),some ⟨fB,0,none⟩,(cs.set m {lD with marked:=true}).length,(cs.set m {lD with marked:=true}),none,0,[],0,0,false,.nilFunc⟩:bS).aW g=(⟨(np:Nat),(sz:Nat),(e0:Nat),some ⟨fB,0,none⟩,cs.length,cs,none,0,[],0,0,false,.nilFunc⟩:bS).aW g:=by unfold bS.aW bS.cells;simp only[m9];try rfl
      have bD:(⟨(np:Nat),(sz:Nat),(e0:Nat),some ⟨fB,0,none⟩,(cs.set m {lD with marked:=true}).length,(cs.set m {lD with marked:=true}),none,0,[],0,0,false,.nilFunc⟩:bS).lX=own 95 3 (some ⟨fB,0,none⟩) cs.length cs.length ((cs.flatMap cn.row).set (m*3+2) (.bool true)):=by
       unfold bS.lX;simp only[m9];congr 1;exact En (row:=cn.row) tN oQ (j:=2) (by decide) I
      have dl:(⟨(np:Nat),(sz:Nat),(e0:Nat),some ⟨fB,0,none⟩,(cs.set m {lD with marked:=true}).length,(cs.set m {lD with marked:=true}),none,0,[],0,0,false,.nilFunc⟩:bS).p1=(⟨(np:Nat),(sz:Nat),(e0:Nat),some ⟨fB,0,none⟩,cs.length,cs,none,0,[],0,0,false,.nilFunc⟩:bS).p1:=by
       unfold bS.p1;simp only[vj];rw[List.Va (by rw[jj,oQ];rfl)]
      rw[bu,bD,dl];exact h
     exact an.ve) ⟨by simp only;omega,by
      simp only;rw[pN,VN,xZ,←k8,vj];show _=sG (cs.map cn.abs) (fP.getD j 0);unfold sG;rw[hm,jK,eM,jj,oQ];rfl⟩ (by simp only;omega)
   ·obtain rfl:j=fP.length:=by omega
    rw[m4] at k8;exact J.exit I<|al.code<|J.seq<|J.aw 4 I<|ac I I<|ac I I<|li [0] (M:=[ff g (⟨(np:Nat),(sz:Nat),(e0:Nat),some ⟨fB,0,none⟩,cs.length,cs,none,0,[],0,0,false,.nilFunc⟩:bS)]) (R:=[]) (X:=bS) (v:=fun _=>.nilIface) (pf:=fun z=>z.abs={(⟨(np:Nat),(sz:Nat),(e0:Nat),some ⟨fB,0,none⟩,cs.length,cs,none,0,[],0,0,false,.nilFunc⟩:bS).abs with dP:=pl.map cr.abs}∧z.watch=.nilFunc) (fS:=fun z=>[ff g z]) I I I I I (fun dK ar cy aiB=>by have:=alu dK g (⟨(np:Nat),(sz:Nat),(e0:Nat),some ⟨fB,0,none⟩,cs.length,cs,none,0,[],0,0,false,.nilFunc⟩:bS) pg c0 pl e ar (fun aZ aI=>(cy aZ aI).mX c4) (fun aZ aI=>gp.sJ ((cy aZ aI).b6)) aiB;simp only[az (show ¬1000<pl.length by omega)] at this;exact this) (fun _ _ _=>trivial)<|fun x af=>ak I I<|U.bl 2 I<|ac I I<|jl I I<|U.next<|J.dy I<|J.skip<|al.code<|J.aw 3 I<|ac I I<|ak I I<|ak I I<|U.next<|J.ret<|al.ret Tryz.results8 I (fun w hw=>⟨(g,x),I,⟨by rw[af.1];unfold c7.new bS.abs;simp only[k8],af.2⟩,hw⟩)
end Go.Proofs.YtcgjepodnfjggaaGreatDoor
end
section
namespace Go.Proofs.YtcgjepodnfjggaaGreatDoor
open Go Go.a6
set_option maxRecDepth 100000
theorem Sc:∀(l:List pS) (b:ae),(zW l b).length=b.length∧((∀x∈b,x<256)→∀x∈zW l b,x<256)
 |[],b=>⟨rfl,fun h=>h⟩
 |f::l,b=>by
  have ab:=Sc l (if f.kind=4 then e6 b f.bits else b);have aa:(if f.kind=4 then e6 b f.bits else b).length=b.length∧((∀x∈b,x<256)→∀x∈(if f.kind=4 then e6 b f.bits else b),x<256):=by
   split
   ·exact⟨y9 _ _,fun h=>x6 h _⟩
   ·exact⟨I,fun h=>h⟩
  exact⟨ab.1.trans aa.1,fun h=>ab.2 (aa.2 h)⟩
def Yd(s:c7)(b:jQ):Prop:=(b.bO.length:Int)=s.bO∧∀p∈b.bO,(p.cells.length:Int)=s.size∧(∀x∈p.cells,x<256)∧p.laid.length≤4096∧∀x∈p.laid,x<256
theorem Zb{s:c7}(h:s.Ok){b:Int}(ad:s.has b=true):Yd s (s.bU b)∧b.toNat<s.blocks.length:=by
 have aa:0≤b∧b<(s.blocks.length:Int):=gF ad;have ab:b.toNat<s.blocks.length:=by omega
 refine⟨?_,ab⟩;unfold c7.bU;rw[eM,eF ab,kg];exact h.bZ _ (sN ab)
theorem abe{s:c7}{b p:Int}(h:s.j3 b p=true):s.has b=true∧0≤p∧p<s.bO:=by
 unfold c7.j3 at h;rw[b7] at h;exact⟨h.1,gF h.2⟩
theorem amb{s:c7}(h:s.Ok){b p:Int}(ad:s.j3 b p=true):((s.bZ b p).cells.length:Int)=s.size∧(∀x∈(s.bZ b p).cells,x<256)∧(s.bZ b p).laid.length≤4096∧(∀x∈(s.bZ b p).laid,x<256):=by
 obtain⟨aa,ab,an⟩:=abe ad;obtain⟨⟨aK,bo⟩,_⟩:=Zb h aa;have cd:p.toNat<(s.bU b).bO.length:=by omega
 unfold c7.bZ;rw[eM,eF cd,kg];exact bo _ (sN cd)
theorem ah8{s mc:c7}(h:s.Ok)(bu:mc.bO=s.bO)(bD:mc.size=s.size)(dl:mc.ot=s.ot)(kq:mc.dP=s.dP){b:Int}{k:jQ}(ah:Yd s k)(ii:mc.blocks=s.blocks.set b.toNat k):mc.Ok:=by
 refine⟨by rw[bu];exact h.cT,by rw[bu];exact h.ix,by rw[bD];exact h.z0,by rw[bD];exact h.gC,by rw[dl];exact h.v0,by rw[dl];exact h.v1,by rw[ii,m9];exact h.h8,fun sa ua=>?_,by rw[kq];exact h.pl,by rw[kq];exact h.o4⟩;rw[ii] at ua;rw[bu,bD];rcases u7 ua with ua|rfl
 ·exact h.bZ sa ua
 ·exact ah
theorem aeh{s:c7}(h:s.Ok)(b p:Int){l:ae}(fq:∀x∈l,x<256):(s.ha b p l).2.Ok:=by
 unfold c7.ha;split
 ·exact h
 ·rename_i aB;obtain⟨_,ab,an⟩:=Ss (Nk aB);obtain⟨aK,bo,cd⟩:=abe ab;obtain⟨⟨k1,k2⟩,_⟩:=Zb h aK;have aG:=amb h ab;have aL:=h.gC;simp only;refine ah8 h (mc:=_) I I I I (b:=b) (k:={s.bU b with bO:=(s.bU b).bO.set p.toNat _}) ⟨by simp only[m9];exact k1,fun q aM=>?_⟩ I;rcases u7 aM with aM|rfl
  ·exact k2 q aM
  ·have aq:=Sc s.eW l;have bc:(s.bZ b p).cells.length≤(zW s.eW l).length:=by rw[aq.1];omega
   refine⟨by simp only;rw[NN bc];exact aG.1,Y0 bc aG.2.1,by simp only;omega,fq⟩
end Go.Proofs.YtcgjepodnfjggaaGreatDoor
end
section
namespace Go.Proofs.YtcgjepodnfjggaaGreatDoor
open Go Go.a6 Go.cv jm
def F8(k1 k2:b3):List pS:=[⟨0,4,0,0,k1⟩,⟨1,1, -1,0,k2⟩]
def uz(sz:Nat)(k1 k2:b3):c7:=c7.new 2 2 sz 1 [] (F8 k1 k2)
def ama(b:ae)(k1:b3):im:=⟨e6 b k1,b,true⟩
def zh(sz:Nat)(b:ae)(k1 k2:b3):c7:=⟨2,sz,1,[jQ.fresh 2 sz,⟨[ama b k1,im.bare sz],0,false⟩],F8 k1 k2,1,0,false⟩
theorem amX{b:ae}{k:Nat}(h:k<8*b.length):nJ b (k:Int)=fY b k:=by
 unfold nJ fY ap;rw[aD (by omega)];simp
theorem Wd:∀(K:ae) (b:ae),(∀k∈K,k<8*b.length)→e6 b (K.map Int.ofNat)=K.foldl fY b
 |[],_,_=>rfl
 |k::K,b,h=>by
  show e6 (nJ b (Int.ofNat k)) (K.map Int.ofNat)=K.foldl fY (fY b k);have e:nJ b (Int.ofNat k)=fY b k:=amX (h k (by simp));rw[e];exact Wd K _ (fun x af=>by rw[oY];exact h x (eQ _ af))
theorem atQ(b:ae)(l r:b3):e6 (e6 b l) r=e6 b (l++r):=by unfold e6;rw[List.foldl_append]
theorem Zw:∀(l:ae),(∀x∈l,x<256)→List.zipWith (fun x y=>x&&&y) (List.replicate l.length 255) l=l
 |[],_=>rfl
 |x::l,h=>by
  have af:255&&&x=x:=by
   have:∀x:Nat,x<256→255&&&x=x:=by decide+kernel
   exact this x (h x (by simp))
  simp only[iG,GS,List.zipWith_cons_cons,af,Zw l (fun z aL=>h z (eQ _ aL))]
section
variable{sz:Nat}{b:ae}{k1 k2:b3}(ad:b.length=sz)(fq:∀x∈b,x<256)
theorem afi(aa:1≤sz)(ab:sz≤4096)(ka:k1.length≤1000000)(jx:k2.length≤1000000):(uz sz k1 k2).Ok:=
 agZ (by decide) (by decide) (by decide) aa ab (by decide) (by decide) (fun m hm=>by cases hm) (by unfold F8;simp) (fun f aI=>by
  unfold F8 at aI;rcases ei.1 aI with rfl|aI
  ·exact ka
  ·rw[hK] at aI;subst aI;exact jx)
include ad fq
theorem PQ:(uz sz k1 k2).ha 1 0 b=(0,zh sz b k1 k2):=by
 have bc:(zW [⟨0,4,0,0,k1⟩] b)=e6 b k1:=rfl;have c6:(uz sz k1 k2).eW=[⟨0,4,0,0,k1⟩]:=rfl;have he:(uz sz k1 k2).wI 1 0 b.length=0:=by
  show B1 false ((uz sz k1 k2).j3 1 0) (decide ((b.length:Int)=(sz:Int)))=0;rw[ad,ek rfl];rfl
 unfold c7.ha;rw[az (by rw[he];decide),c6];show(0,_)=_;have aL:hA (ht (sz:Int) (sz:Int)) (List.replicate sz 255) (e6 b k1)=e6 b k1:=by
  have ag:ht (sz:Int) (sz:Int)=sz:=by unfold ht;omega
  have hlen:(e6 b k1).length=sz:=by rw[y9,ad]
  unfold hA;rw[ag,pK (by simp),pK (by omega),BS (by simp),nK];have:=Zw (e6 b k1) (x6 fq k1);rw[hlen] at this;exact this
 have e:(uz sz k1 k2).bZ 1 0=im.bare sz:=rfl;have bD:((gx [⟨0,4,0,0,k1⟩] (uz sz k1 k2).size)).1=(sz:Int):=rfl;unfold zh;congr 1;show c7.HW _ 1 0 ⟨hA (ht (sz:Int) (sz:Int)) (List.replicate sz 255) (e6 b k1),b,true⟩=_;rw[aL];rfl
omit ad fq in
theorem XX:(zh sz b k1 k2).rd 1 0 0=(0,e6 (e6 b k1) k2,(zh sz b k1 k2).tick):=rfl
end
end Go.Proofs.YtcgjepodnfjggaaGreatDoor
end
section
namespace Go.Proofs.YtcgjepodnfjggaaGreatDoor
open Go Go.Lib Go.a6 Go.cv jm
set_option maxRecDepth 100000
def Mt:List nR:=[⟨10,8,16,9,2,2,0,3,4⟩,⟨12,6,16,9,1,2,1,2,3⟩,⟨12,16,96,11,3,2,3,4,5⟩,⟨9,16,64,10,2,2,0,5,6⟩]
def Y9:nR:=⟨0,0,0,0,0,0,0,0,0⟩
def qM(a:Int):nR:=Mt.getD (a%4).toNat Y9
def aaM:cJ:=(Mt.flatMap (fun g=>g.cells.toList)).toArray
theorem aji:∀i,i<4→∀(j:Nat) (v:aV),(Mt.getD i Y9).cells.toList[j]?=some v→aaM[9*i+j]?=some v:=by
 intro i hi j v h;have ax:j<9:=(j6.1 h).1;rcases(show i=0∨i=1∨i=2∨i=3 by omega) with rfl|rfl|rfl|rfl<;>(rcases(show j=0∨j=1∨j=2∨j=3∨j=4∨j=5∨j=6∨j=7∨j=8 by omega) with rfl|rfl|rfl|rfl|rfl|rfl|rfl|rfl|rfl)<;>exact h
theorem aep(a:Int):∃m t s:Nat,(qM a).m=(m:Int)∧(qM a).t=(t:Int)∧(qM a).s=(s:Int)∧mZ m t s∧2*t<N m∧1≤t∧t≤3∧s≤96:=by
 have aB:=ng a (b:=4) (by omega);have aa:=tV a (show(0:Int)<4 by omega);have fit:∀(m t s:Nat) (h:e3 m t),8*(s+32)+m*t≤N m→1≤s→s≤1024→mZ m t s:=fun m t s h ab an aK=>⟨h,an,aK,by
  have:=Mr h.ok t;rw[h.k9] at this;omega⟩
 unfold qM;rcases(show(a%4).toNat=0∨(a%4).toNat=1∨(a%4).toNat=2∨(a%4).toNat=3 by omega) with h|h|h|h<;>rw[h]
 ·exact⟨9,2,16,I,I,I,fit 9 2 16 ⟨⟨by decide,by decide⟩,by decide,by decide⟩ (by decide) (by decide) (by decide),by decide,by decide,by decide,by decide⟩
 ·exact⟨9,1,16,I,I,I,fit 9 1 16 ⟨⟨by decide,by decide⟩,by decide,by decide⟩ (by decide) (by decide) (by decide),by decide,by decide,by decide,by decide⟩
 ·exact⟨11,3,96,I,I,I,fit 11 3 96 ⟨⟨by decide,by decide⟩,by decide,by decide⟩ (by decide) (by decide) (by decide),by decide,by decide,by decide,by decide⟩
 ·exact⟨10,2,64,I,I,I,fit 10 2 64 ⟨⟨by decide,by decide⟩,by decide,by decide⟩ (by decide) (by decide) (by decide),by decide,by decide,by decide,by decide⟩
theorem D1(a:Int)(w:ao):cC Tryz.prog 5 [.int .i64 a] w ((qM a).agg):=by
 have ad:=Ed (k:=4) (by omega) a;have aB:=ng a (b:=4) (by omega);have aa:=tV a (show(0:Int)<4 by omega);exact b8 Tryz.func5 I Tryz.ntmps5 I<|J.aw 1 I<|gg I aJ<|fun hX=>U.bl 6 I<|gl I I (cells:= #[.int .i64 10,.int .i64 8,.int .i64 16,.int .i64 9,.int .i64 2,.int .i64 2,.int .i64 0,.int .i64 3,.int .i64 4]) (by kernel_rfl)<|gl I I (cells:= #[.int .i64 12,.int .i64 6,.int .i64 16,.int .i64 9,.int .i64 1,.int .i64 2,.int .i64 1,.int .i64 2,.int .i64 3]) (by kernel_rfl)<|gl I I (cells:= #[.int .i64 12,.int .i64 16,.int .i64 96,.int .i64 11,.int .i64 3,.int .i64 2,.int .i64 3,.int .i64 4,.int .i64 5]) (by kernel_rfl)<|gl I I (cells:= #[.int .i64 9,.int .i64 16,.int .i64 64,.int .i64 10,.int .i64 2,.int .i64 2,.int .i64 0,.int .i64 5,.int .i64 6]) (by kernel_rfl)<|ja I I (cells:=aaM) (by kernel_rfl) I aJ<|fun FW=>ak I I<|U.bl 8 I<|ac I I<|ac I I<|h4 I I I (by omega) I<|b1 I I I (r:=a.tmod 4+4) (bm (by omega))<|h4 I I I (by omega) (r:=(((a%4).toNat:Nat):Int)) (XB (by omega) _)<|uD I I I (by omega)<|pj (cs:=(qM a).cells.toList) I I I (fun w hw j v ax=>(hw.has (i:=0) I).fI (by rw[jK,iO,o3];exact aji _ (by omega) j v ax))<|fE 1 I I (by kernel_rfl) I I I I aJ<|U.next<|J.ret<|al.nu (rs:=[.cell 2 28]) Tryz.results5 (fun w hw=>⟨[_],⟨⟨_,I,hw.nO (q:=1) I (by rfl)⟩,trivial⟩,I,hw.nothing⟩)
theorem X5(x:b5)(w:ao):cC Tryz.prog 12 [x.agg,x.agg] w (.bool true):=by
 exact b8 Tryz.func12 I Tryz.ntmps12 I<|J.aw 3 I<|fx I I aJ<|fun hX=>fx I I aJ<|fun lg=>ak I I<|U.bl 41 I<|bd I I<|cm 1 I I I (v:=.int .i64 (x.f 0)) I<|bd I I<|cm 0 I I I (v:=.int .i64 (x.f 0)) I<|gy I I I (ek I)<|ac I I<|bd I I<|cm 1 I I I (v:=.int .i64 (x.f 1)) I<|bd I I<|cm 0 I I I (v:=.int .i64 (x.f 1)) I<|gy I I I (ek I)<|fe I I I<|ac I I<|bd I I<|cm 1 I I I (v:=.int .i64 (x.f 2)) I<|bd I I<|cm 0 I I I (v:=.int .i64 (x.f 2)) I<|gy I I I (ek I)<|fe I I I<|ac I I<|bd I I<|cm 1 I I I (v:=.int .i64 (x.f 3)) I<|bd I I<|cm 0 I I I (v:=.int .i64 (x.f 3)) I<|gy I I I (ek I)<|fe I I I<|ac I I<|bd I I<|cm 1 I I I (v:=.int .i64 (x.f 4)) I<|bd I I<|cm 0 I I I (v:=.int .i64 (x.f 4)) I<|gy I I I (ek I)<|fe I I I<|ac I I<|bd I I<|cm 1 I I I (v:=.int .i64 (x.f 5)) I<|bd I I<|cm 0 I I I (v:=.int .i64 (x.f 5)) I<|gy I I I (ek I)<|fe I I I<|ak I I<|U.next<|J.ret<|al.ret Tryz.results12 I (fun w hw=>⟨I,hw.nothing⟩)
def xI(n:Nat)(x:Int):Nat:=(x%((8*n:Nat):Int)).toNat
theorem ags{n:Nat}(h:1≤n)(x:Int):xI n x<8*n:=by
 have aa:=ng x (b:=((8*n:Nat):Int)) (by omega);have ab:=tV x (b:=((8*n:Nat):Int)) (by omega);unfold xI;omega
def dE(n:Nat)(l:b3)(i:Nat):ae:=(l.take i).map (xI n)
theorem anv{n:Nat}{l:b3}{i:Nat}(h:i≤l.length):(dE n l i).length=i:=by unfold dE;rw[List.length_map,List.length_take];omega
theorem aod{n:Nat}{l:b3}{i:Nat}(h:i<l.length):dE n l i++[xI n (l.getD i 0)]=dE n l (i+1):=by
 unfold dE;rw[pN,n3,eF h,eM,eF h];rfl
theorem aj4{n:Nat}(h:1≤n){l:b3}{i:Nat}:∀k∈dE n l i,k<8*n:=by
 intro k ah;obtain⟨x,_,rfl⟩:=gE.1 ah;exact ags h x
theorem Hv(k:cg)(l:ae):aA k l=ints k (l.map Int.ofNat):=by simp[aA,ints]
theorem aiT{l r:b3}{i:Nat}(h:i<l.length):(l++r).getD i 0=l.getD i 0:=by
 rw[eM,eM,nE h]
theorem ajS{l r:b3}{i:Nat}(h:l.length≤i):(l++r).getD i 0=r.getD (i- l.length) 0:=by
 rw[eM,eM,mg h]
theorem YI{l:b3}{j:Nat}(h:j<l.length):(ints .i64 l)[j]?=some (.int .i64 (l.getD j 0)):=by
 unfold ints;rw[jj,eF h,eM,eF h];rfl
theorem akB(a0:Int)(y:b5)(kt:aN)(gO kp:Nat)(cT:ae)(fo:aN)(fc dO:Nat)(aC:b3)(bw:aN)(cD c2:Nat)(l2:b3)(e:Nat→Addr)(w:ao)(ox:∀aZ,bF w [] aZ→cC Tryz.prog 4 [] aZ (.bool true))(he:Has (lF e pE) w)(h9:Has (aP 1 kt gO (aA .u8 cT)) w)(iu:∀x∈cT,x<256)(qD:gO≤9223372036854775807)(nr:Has (aP 1 fo fc (ints .i64 aC)) w)(qZ:fc≤9223372036854775807)(eU:Has (aP 1 bw cD (ints .i64 l2)) w)(eX:cD≤9223372036854775807)(g:nR)(bg:qM a0=g)(bc:200<gO):cC Tryz.prog 3 [.int .i64 a0,y.agg,.slice kt gO kp,.slice fo fc dO,.slice bw cD c2] w (.bool true):=by
 have ug:=kc h9;have tX:aC.length=fc:=by have:=nr.hE;simpa[ints] using this
 have lT:l2.length=cD:=by have:=eU.hE;simpa[ints] using this
 subst ug tX lT;refine b8 Tryz.func3 I Tryz.ntmps3 I<|J.aw 2 I<|fx I I aJ (fun iD=>?_);refine ak I I<|U.next<|J.seq<|J.aw 2 I<|bJ I I I I (fun aZ bG=>ox aZ bG.nothing) aJ<|ls I I<|U.next<|J.dy I<|J.skip<|al.code<|J.aw 4 I<|ac I I<|bJ I I I I (fun w hw=>by have:=D1 a0 w;rw[bg] at this;exact this) aJ<|gg I aJ (fun kR=>?_);refine fE 0 I I (by kernel_rfl) I I I I aJ<|U.next<|J.seq<|J.aw 13 I<|ac I I<|cf I I<|fD I I I (ek (by omega))<|ac I I<|U.skip I<|U.skip I<|U.skip I<|fe I I I<|ac I I<|U.skip I<|U.skip I<|U.skip I<|fe I I I<|U.next<|J.hH I<|J.aw 1 I<|ak I I<|U.next<|J.ret ?_;exact al.ret Tryz.results3 I (fun w hw=>⟨I,hw.nothing⟩)
theorem adE(a0:Int)(y:b5)(kt:aN)(gO kp:Nat)(cT:ae)(fo:aN)(fc dO:Nat)(aC:b3)(bw:aN)(cD c2:Nat)(l2:b3)(e:Nat→Addr)(w:ao)(ox:∀aZ,bF w [] aZ→cC Tryz.prog 4 [] aZ (.bool true))(he:Has (lF e pE) w)(h9:Has (aP 1 kt gO (aA .u8 cT)) w)(iu:∀x∈cT,x<256)(qD:gO≤9223372036854775807)(nr:Has (aP 1 fo fc (ints .i64 aC)) w)(qZ:fc≤9223372036854775807)(eU:Has (aP 1 bw cD (ints .i64 l2)) w)(eX:cD≤9223372036854775807)(g:nR)(bg:qM a0=g)(yH:gO≤200)(bc:20<fc):cC Tryz.prog 3 [.int .i64 a0,y.agg,.slice kt gO kp,.slice fo fc dO,.slice bw cD c2] w (.bool true):=by
 have ug:=kc h9;have tX:aC.length=fc:=by have:=nr.hE;simpa[ints] using this
 have lT:l2.length=cD:=by have:=eU.hE;simpa[ints] using this
 subst ug tX lT;refine b8 Tryz.func3 I Tryz.ntmps3 I<|J.aw 2 I<|fx I I aJ (fun iD=>?_);refine ak I I<|U.next<|J.seq<|J.aw 2 I<|bJ I I I I (fun aZ bG=>ox aZ bG.nothing) aJ<|ls I I<|U.next<|J.dy I<|J.skip<|al.code<|J.aw 4 I<|ac I I<|bJ I I I I (fun w hw=>by have:=D1 a0 w;rw[bg] at this;exact this) aJ<|gg I aJ (fun kR=>?_);refine fE 0 I I (by kernel_rfl) I I I I aJ<|U.next<|J.seq<|J.aw 13 I<|ac I I<|cf I I<|fD I I I (df (by omega))<|ac I I<|ac I I<|cf I I<|fD I I I (ek (by omega))<|ef I I I<|ac I I<|U.skip I<|U.skip I<|U.skip I<|fe I I I<|U.next<|J.hH I<|J.aw 1 I<|ak I I<|U.next<|J.ret ?_;exact al.ret Tryz.results3 I (fun w hw=>⟨I,hw.nothing⟩)
theorem ai3(a0:Int)(y:b5)(kt:aN)(gO kp:Nat)(cT:ae)(fo:aN)(fc dO:Nat)(aC:b3)(bw:aN)(cD c2:Nat)(l2:b3)(e:Nat→Addr)(w:ao)(ox:∀aZ,bF w [] aZ→cC Tryz.prog 4 [] aZ (.bool true))(he:Has (lF e pE) w)(h9:Has (aP 1 kt gO (aA .u8 cT)) w)(iu:∀x∈cT,x<256)(qD:gO≤9223372036854775807)(nr:Has (aP 1 fo fc (ints .i64 aC)) w)(qZ:fc≤9223372036854775807)(eU:Has (aP 1 bw cD (ints .i64 l2)) w)(eX:cD≤9223372036854775807)(g:nR)(bg:qM a0=g)(yH:gO≤200)(sH:fc≤20)(bc:20<cD):cC Tryz.prog 3 [.int .i64 a0,y.agg,.slice kt gO kp,.slice fo fc dO,.slice bw cD c2] w (.bool true):=by
 have ug:=kc h9;have tX:aC.length=fc:=by have:=nr.hE;simpa[ints] using this
 have lT:l2.length=cD:=by have:=eU.hE;simpa[ints] using this
 subst ug tX lT;refine b8 Tryz.func3 I Tryz.ntmps3 I<|J.aw 2 I<|fx I I aJ (fun iD=>?_);refine ak I I<|U.next<|J.seq<|J.aw 2 I<|bJ I I I I (fun aZ bG=>ox aZ bG.nothing) aJ<|ls I I<|U.next<|J.dy I<|J.skip<|al.code<|J.aw 4 I<|ac I I<|bJ I I I I (fun w hw=>by have:=D1 a0 w;rw[bg] at this;exact this) aJ<|gg I aJ (fun kR=>?_);refine fE 0 I I (by kernel_rfl) I I I I aJ<|U.next<|J.seq<|J.aw 13 I<|ac I I<|cf I I<|fD I I I (df (by omega))<|ac I I<|ac I I<|cf I I<|fD I I I (df (by omega))<|ef I I I<|ac I I<|ac I I<|cf I I<|fD I I I (ek (by omega))<|ef I I I<|U.next<|J.hH I<|J.aw 1 I<|ak I I<|U.next<|J.ret ?_;exact al.ret Tryz.results3 I (fun w hw=>⟨I,hw.nothing⟩)
theorem adS(a0:Int)(y:b5)(kt:aN)(gO kp:Nat)(cT:ae)(fo:aN)(fc dO:Nat)(aC:b3)(bw:aN)(cD c2:Nat)(l2:b3)(e:Nat→Addr)(w:ao)(ox:∀aZ,bF w [] aZ→cC Tryz.prog 4 [] aZ (.bool true))(he:Has (lF e pE) w)(h9:Has (aP 1 kt gO (aA .u8 cT)) w)(iu:∀x∈cT,x<256)(qD:gO≤9223372036854775807)(nr:Has (aP 1 fo fc (ints .i64 aC)) w)(qZ:fc≤9223372036854775807)(eU:Has (aP 1 bw cD (ints .i64 l2)) w)(eX:cD≤9223372036854775807)(g:nR)(bg:qM a0=g)(m t s:Nat)(qO:g.m=(m:Int))(nd:g.t=(t:Int))(nZ:g.s=(s:Int))(av:mZ m t s)(fM:Nat)(Bf:vn e g fM)(xb:2*t<N m)(z6:1≤t)(Gx:t≤3)(aqa:s≤96)(yH:gO≤200)(sH:fc≤20)(m3:cD≤20)(aF:y.ok=false):cC Tryz.prog 3 [.int .i64 a0,y.agg,.slice kt gO kp,.slice fo fc dO,.slice bw cD c2] w (.bool true):=by
 have ug:=kc h9;have tX:aC.length=fc:=by have:=nr.hE;simpa[ints] using this
 have lT:l2.length=cD:=by have:=eU.hE;simpa[ints] using this
 subst ug tX lT;have lE:=XR iu s;have tT:=av.oW;have rH:=av.mt.o0;refine b8 Tryz.func3 I Tryz.ntmps3 I<|J.aw 2 I<|fx I I aJ (fun iD=>?_);refine ak I I<|U.next<|J.seq<|J.aw 2 I<|bJ I I I I (fun aZ bG=>ox aZ bG.nothing) aJ<|ls I I<|U.next<|J.dy I<|J.skip<|al.code<|J.aw 4 I<|ac I I<|bJ I I I I (fun w hw=>by have:=D1 a0 w;rw[bg] at this;exact this) aJ<|gg I aJ (fun kR=>?_);refine fE 0 I I (by kernel_rfl) I I I I aJ<|U.next<|J.seq<|J.aw 13 I<|ac I I<|cf I I<|fD I I I (df (by omega))<|ac I I<|ac I I<|cf I I<|fD I I I (df (by omega))<|ef I I I<|ac I I<|ac I I<|cf I I<|fD I I I (df (by omega))<|ef I I I<|U.next<|J.dy I<|J.skip<|al.code<|J.aw 7 I<|ie 0 I I I<|dh I I I I (fun aZ bG=>Kj g m t s fM e aZ Bf (bG.a7 he) qO nd nZ av) aJ (fun z aL=>?_);obtain⟨c0,mH⟩:=z;refine ac I I<|cB I I I<|cB I I I<|ak I I<|ak I I<|U.next<|J.seq<|J.aw 6 I<|ac I I<|I5 I I<|ac I I<|ac I I<|jl I I<|ef I I I<|U.next<|J.dy I<|J.skip<|al.code<|J.aw 4 I<|bd I I<|cm 1 I I I (v:=.int .i64 (s:Nat)) (by rw[←nZ];rfl)<|lP s rfl rfl rfl rfl rfl (by have:=av.oW;omega) aJ (fun bM=>?_);refine ak I I<|U.bl 3 I<|ac I I<|ac I I ?_;refine(Fm (ys:=aA .u8 cT) 0 (g:=bM) (off:=0) I I I I (fun _=>I) (fun w hw=>hw.a7 h9) (mz _ _) (by simp) aJ ?_);refine U.pre (ec:=bF w [own 5 1 (some ⟨bM,0,none⟩) s s (aA .u8 (dX cT s)),jA c0 m t s mH,aE kR 28 g.cells,aE iD 23 y.cells]) (fun _ h=>by rw[YT] at h;exact h.st (q:=0) (c:=s) (sz:=1) I (by simp[IT]) (by have:=av.oW;unfold maxLen;omega))<|U.bl 10 rfl<|ac rfl rfl<|gl rfl rfl (cells:= #[.int .i64 1,.int .i64 0]) (by kernel_rfl)<|ie 3 rfl rfl rfl<|ac rfl rfl<|bJ rfl rfl rfl rfl (fun aZ bG=>auV c0 m t s mH 1 0 y (some ⟨bM,0,none⟩) s s (dX cT s) e aZ av aL (bG.has (i:=1) rfl) lE rfl ((bG.has (i:=0) rfl).dw) ((bG.a7 he).jt (by decide+kernel)) aF) aJ<|ac rfl rfl<|cB rfl rfl rfl<|cB rfl rfl rfl<|ak rfl rfl<|ak rfl rfl<|U.next<|J.seq<|J.aw 2 rfl<|ac rfl rfl<|B2 rfl rfl<|U.next<|J.hH rfl<|J.aw 4 rfl<|ac rfl rfl<|c5 rfl rfl (fun _ h=>(h.a7 he).jt (by decide+kernel))<|ane rfl rfl rfl<|ak rfl rfl<|U.next<|J.ret ?_;exact al.ret Tryz.results3 I (fun w hw=>⟨I,hw.nothing⟩)
theorem aaf(c:Nat)(y:b5)(v:aV)(f:Nat){j:Nat}{x:aV}(h:y.q2[j]?=some x):(pz c y v f)[1+j]?=some x:=by
 have ax:j<6:=(j6.1 h).1;rcases(show j=0∨j=1∨j=2∨j=3∨j=4∨j=5 by omega) with rfl|rfl|rfl|rfl|rfl|rfl<;>exact h
theorem ab7{A:aN}{n c q:Nat}{l:ae}{w:ao}(aj:Has (aP 1 A n (aA .i64 l)) w)(h:q≤n)(ag:n≤c):Has (aP 1 (gw A q 1 c) (n- q) (aA .i64 (l.drop q))) w:=by
 have eA:l.length=n:=by have:=aj.hE;simpa[aA] using this
 refine Has.gK (aj.K2 (lo:=q) (hi:=n) h (cq _) ag) ?_;rw[dJ,dJ];unfold aA;rw[←LH,pK (by rw[iK,qV];omega)]
theorem Ua{A:aN}{n q:Nat}{l:ae}{w:ao}(aj:Has (aP 1 A n (aA .i64 l)) w)(h:q≤n):Has (aP 1 A q (aA .i64 (l.take q))) w:=by
 refine Has.gK (aj.su (q:=q) h) ?_;rw[dJ];unfold aA;rw[AZ]
set_option maxHeartbeats 1600000 in
theorem alb(a0:Int)(y:b5)(kt:aN)(gO kp:Nat)(cT:ae)(fo:aN)(fc dO:Nat)(aC:b3)(bw:aN)(cD c2:Nat)(l2:b3)(e:Nat→Addr)(w:ao)(ox:∀aZ,bF w [] aZ→cC Tryz.prog 4 [] aZ (.bool true))(he:Has (lF e pE) w)(h9:Has (aP 1 kt gO (aA .u8 cT)) w)(iu:∀x∈cT,x<256)(qD:gO≤9223372036854775807)(nr:Has (aP 1 fo fc (ints .i64 aC)) w)(qZ:fc≤9223372036854775807)(eU:Has (aP 1 bw cD (ints .i64 l2)) w)(eX:cD≤9223372036854775807)(g:nR)(bg:qM a0=g)(m t s:Nat)(qO:g.m=(m:Int))(nd:g.t=(t:Int))(nZ:g.s=(s:Int))(av:mZ m t s)(fM:Nat)(Bf:vn e g fM)(xb:2*t<N m)(z6:1≤t)(Gx:t≤3)(aqa:s≤96)(yH:gO≤200)(sH:fc≤20)(m3:cD≤20)(aF:y.ok=true):cC Tryz.prog 3 [.int .i64 a0,y.agg,.slice kt gO kp,.slice fo fc dO,.slice bw cD c2] w (.bool true):=by
 have ug:=kc h9;have tX:aC.length=fc:=by have:=nr.hE;simpa[ints] using this
 have lT:l2.length=cD:=by have:=eU.hE;simpa[ints] using this
 subst ug tX lT;have lE:=XR iu s;have tT:=av.oW;have rH:=av.mt.o0;have aaj:1≤aY m t:=av.mt.ix;refine b8 Tryz.func3 I Tryz.ntmps3 I<|J.aw 2 I<|fx I I aJ (fun iD=>?_);refine ak I I<|U.next<|J.seq<|J.aw 2 I<|bJ I I I I (fun aZ bG=>ox aZ bG.nothing) aJ<|ls I I<|U.next<|J.dy I<|J.skip<|al.code<|J.aw 4 I<|ac I I<|bJ I I I I (fun w hw=>by have:=D1 a0 w;rw[bg] at this;exact this) aJ<|gg I aJ (fun kR=>?_);refine fE 0 I I (by kernel_rfl) I I I I aJ<|U.next<|J.seq<|J.aw 13 I<|ac I I<|cf I I<|fD I I I (df (by omega))<|ac I I<|ac I I<|cf I I<|fD I I I (df (by omega))<|ef I I I<|ac I I<|ac I I<|cf I I<|fD I I I (df (by omega))<|ef I I I<|U.next<|J.dy I<|J.skip<|al.code<|J.aw 7 I<|ie 0 I I I<|dh I I I I (fun aZ bG=>Kj g m t s fM e aZ Bf (bG.a7 he) qO nd nZ av) aJ (fun z aL=>?_);obtain⟨c0,mH⟩:=z;refine ac I I<|cB I I I<|cB I I I<|ak I I<|ak I I<|U.next<|J.seq<|J.aw 6 I<|ac I I<|I5 I I<|ac I I<|ac I I<|jl I I<|ef I I I<|U.next<|J.dy I<|J.skip<|al.code<|J.aw 4 I<|bd I I<|cm 1 I I I (v:=.int .i64 (s:Nat)) (by rw[←nZ];rfl)<|lP s rfl rfl rfl rfl rfl (by have:=av.oW;omega) aJ (fun bM=>?_);refine ak I I<|U.bl 3 I<|ac I I<|ac I I ?_;refine(Fm (ys:=aA .u8 cT) 0 (g:=bM) (off:=0) I I I I (fun _=>I) (fun w hw=>hw.a7 h9) (mz _ _) (by simp) aJ ?_);refine U.pre (ec:=bF w [own 5 1 (some ⟨bM,0,none⟩) s s (aA .u8 (dX cT s)),jA c0 m t s mH,aE kR 28 g.cells,aE iD 23 y.cells]) (fun _ h=>by rw[YT] at h;exact h.st (q:=0) (c:=s) (sz:=1) I (by simp[IT]) (by have:=av.oW;unfold maxLen;omega))<|U.bl 10 rfl<|ac rfl rfl<|gl rfl rfl (cells:= #[.int .i64 1,.int .i64 0]) (by kernel_rfl)<|ie 3 rfl rfl rfl<|ac rfl rfl<|dh rfl rfl rfl rfl (fun aZ bG=>XQ c0 m t s mH 1 0 y (some ⟨bM,0,none⟩) s s (dX cT s) aZ av aL (bG.has (i:=1) rfl) lE rfl ((bG.has (i:=0) rfl).dw) aF) aJ<|fun q aM=>ac rfl rfl<|cB rfl rfl rfl<|cB rfl rfl rfl<|ak rfl rfl<|ak rfl rfl<|U.next<|J.seq<|J.aw 2 rfl<|ac rfl rfl<|jl rfl rfl<|U.next<|J.dy rfl<|J.skip<|al.code<|J.aw 1 rfl<|ak rfl rfl<|U.next ?_;refine J.cut (G:=aN×Nat) (fun z=>[(3,.slice fo aC.length dO),(4,.slice bw l2.length c2),(6,.pointer (some ⟨iD,0,none⟩)),(11,.pointer (some ⟨kR,0,none⟩)),(12,.pointer (some ⟨c0,0,none⟩)),(14,(.slice (some ⟨bM,0,none⟩) s s)),(15,.slice q.1 (s+32+aY m t) q.2),(17,.slice z.1 (min (aC.length+l2.length) t) z.2),(18,.int .i64 ((min (aC.length+l2.length) t):Nat))]) (fun z=>bF w [own 3 1 z.1 (min (aC.length+l2.length) t) z.2 (aA .i64 (dE (s+32+aY m t) (aC++l2) (min (aC.length+l2.length) t))),own 5 1 q.1 (s+32+aY m t) q.2 (aA .u8 (fr m t 1 0 y (dX cT s))),own 5 1 (some ⟨bM,0,none⟩) s s (aA .u8 (dX cT s)),jA c0 m t s mH,aE kR 28 g.cells,aE iD 23 y.cells]) (fun z=>(min (aC.length+l2.length) t)≤z.2) ?_ ?_
 ·refine J.aw 1 I<|ak I I<|U.next<|J.block<|J.loop (G:=Nat×aN×Nat) (fun z=>[(3,.slice fo aC.length dO),(4,.slice bw l2.length c2),(6,.pointer (some ⟨iD,0,none⟩)),(11,.pointer (some ⟨kR,0,none⟩)),(12,.pointer (some ⟨c0,0,none⟩)),(14,(.slice (some ⟨bM,0,none⟩) s s)),(15,.slice q.1 (s+32+aY m t) q.2),(17,.slice z.2.1 z.1 z.2.2),(18,.int .i64 (z.1:Nat))]) (fun z=>bF w [own 3 1 z.2.1 z.1 z.2.2 (aA .i64 (dE (s+32+aY m t) (aC++l2) z.1)),own 5 1 q.1 (s+32+aY m t) q.2 (aA .u8 (fr m t 1 0 y (dX cT s))),own 5 1 (some ⟨bM,0,none⟩) s s (aA .u8 (dX cT s)),jA c0 m t s mH,aE kR 28 g.cells,aE iD 23 y.cells]) (fun z=>z.1≤(min (aC.length+l2.length) t)∧z.1≤z.2.2) (fun z=>(min (aC.length+l2.length) t)- z.1) (0,none,0) ⟨I,I,I,I,I,I,I,I,I,trivial⟩ (fun _ h=>h.iB 3 1) ⟨dg _,cq _⟩ ?_;rintro⟨i,ed,cY⟩ ⟨hi,Qq⟩;simp only at hi Qq;dsimp only;refine J.seq<|J.aw 13 I<|ac I I<|ac I I<|cf I I<|ac I I<|cf I I<|b1 I I I (r:=((aC.length+l2.length:Nat):Int)) (by rw[show((aC.length:Nat):Int)+((l2.length:Nat):Int)=((aC.length+l2.length:Nat):Int) by omega];exact bm (by omega))<|cQ I I I (r:=decide (i<aC.length+l2.length)) (pu.2 (by omega))<|ac I I ?_;refine U.bool 81 I (fun ad=>?_) (fun ad=>?_)
  ·have ca:=gF ad;refine ac I I<|bd I I<|cm 4 I I I (v:=.int .i64 (t:Nat)) (by rw[←nd];rfl)<|cQ rfl rfl rfl (r:=decide (i<t)) (pu.2 (by omega))<|fe rfl rfl rfl<|U.next ?_;refine J.test I (fun ag=>?_) (fun ag=>?_)
   ·have Ad:i<t:=by omega
    have aq4:i<(aC++l2).length:=by rw[ee];omega
    refine J.skip<|al.code<|J.seq<|J.block<|J.aw 1 I<|ak I I<|U.next ?_;refine J.cut (G:=Unit) (fun _=>[(3,.slice fo aC.length dO),(4,.slice bw l2.length c2),(6,.pointer (some ⟨iD,0,none⟩)),(11,.pointer (some ⟨kR,0,none⟩)),(12,.pointer (some ⟨c0,0,none⟩)),(14,(.slice (some ⟨bM,0,none⟩) s s)),(15,.slice q.1 (s+32+aY m t) q.2),(17,.slice ed i cY),(18,.int .i64 (i:Nat)),(19,.int .i64 ((aC++l2).getD i 0))]) (fun _=>bF w [own 3 1 ed i cY (aA .i64 (dE (s+32+aY m t) (aC++l2) i)),own 5 1 q.1 (s+32+aY m t) q.2 (aA .u8 (fr m t 1 0 y (dX cT s))),own 5 1 (some ⟨bM,0,none⟩) s s (aA .u8 (dX cT s)),jA c0 m t s mH,aE kR 28 g.cells,aE iD 23 y.cells]) (fun _=>True) ?_ ?_
    ·refine J.aw 4 I<|ac I I<|ac I I<|cf I I<|cQ I I I (r:=decide (i<aC.length)) (pu.2 (by omega))<|U.next ?_;refine J.test I (fun bo=>?_) (fun bo=>?_)
     ·refine J.rg 5 I<|ac I I<|ac I I<|fH i (fun w hw=>hw.a7 nr) I I I I (by omega)<|jN (fun w hw=>hw.a7 nr) I I (by rw[dJ];exact YI (by omega)) (by omega)<|ak I I<|U.end_ ?_;exact al.join () ⟨I,I,I,I,I,I,I,I,I,by rw[aiT (by omega)];rfl,trivial⟩ (fun _ h=>h) trivial
     ·refine J.rg 8 I<|ac I I<|ac I I<|ac I I<|cf I I<|eB I I I (r:=((i- aC.length:Nat):Int)) (by rw[bm (by omega)];omega)<|fH (i- aC.length) (fun w hw=>hw.a7 eU) rfl rfl rfl rfl (by omega)<|jN (fun w hw=>hw.a7 eU) rfl rfl (by rw[dJ];exact YI (by omega)) (by omega)<|ak I I<|U.end_ ?_;exact al.join () ⟨I,I,I,I,I,I,I,I,I,by rw[ajS (by omega)];rfl,trivial⟩ (fun _ h=>h) trivial
    ·intro _ _;refine J.rg 17 I<|ac I I<|ac I I<|ac I I<|cf I I<|jE I I I (r:=((8*(s+32+aY m t):Nat):Int)) (by rw[show(8:Int)*(((s+32+aY m t):Nat):Int)=((8*(s+32+aY m t):Nat):Int) by omega];exact bm (by omega))<|h4 I I I (by omega) I<|ac I I<|cf I I<|jE I I I (r:=((8*(s+32+aY m t):Nat):Int)) (by rw[show(8:Int)*(((s+32+aY m t):Nat):Int)=((8*(s+32+aY m t):Nat):Int) by omega];exact bm (by omega))<|b1 I I I (r:=((aC++l2).getD i 0).tmod ((8*(s+32+aY m t):Nat):Int)+((8*(s+32+aY m t):Nat):Int)) (bm (by have:=Ed (k:=((8*(s+32+aY m t):Nat):Int)) (by omega) ((aC++l2).getD i 0);omega))<|ac rfl rfl<|cf rfl rfl<|jE rfl rfl rfl (r:=((8*(s+32+aY m t):Nat):Int)) (by rw[show(8:Int)*(((s+32+aY m t):Nat):Int)=((8*(s+32+aY m t):Nat):Int) by omega];exact bm (by omega))<|h4 I I I (by omega) (r:=((xI (s+32+aY m t) ((aC++l2).getD i 0):Nat):Int)) (XB (by omega) _)<|ja I I (cells:= #[.int .i64 (xI (s+32+aY m t) ((aC++l2).getD i 0):Nat)]) (by kernel_rfl) I aJ<|fun iv=>ma 1 I I I I (ys:=[.int .i64 (xI (s+32+aY m t) ((aC++l2).getD i 0):Nat)]) (fun w hw=>Has.gK ((hw.has (i:=0) I).kI (m:=1) I) I) I I (by omega) (by unfold maxLen;omega) (by omega) (fun _ _ _ _=>trivial)<|fun uy k0 tx=>ak rfl rfl<|U.end_<|al.aE<|al.code<|J.rg 3 rfl<|ac rfl rfl<|b1 rfl rfl rfl (r:=((i+1:Nat):Int)) (bm (by omega))<|ak rfl rfl<|U.end_ ?_;exact al.back (i+1,uy,k0) ⟨I,I,I,I,I,I,I,I,I,trivial⟩ (fun _ h=>by rw[Au,aod aq4] at h;exact h.tail) ⟨by simp only;omega,tx⟩ (by simp only;omega)
   ·obtain rfl:i=(min (aC.length+l2.length) t):=by omega
    refine J.exit I ?_;exact al.join (ed,cY) ⟨I,I,I,I,I,I,I,I,I,trivial⟩ (fun _ h=>h) Qq
  ·have Dm:=jG ad;obtain rfl:i=(min (aC.length+l2.length) t):=by omega
   refine U.skip I<|U.skip I<|U.skip I<|U.skip I<|ef I I I<|U.next<|J.dy I<|J.exit I ?_;exact al.join (ed,cY) ⟨I,I,I,I,I,I,I,I,I,trivial⟩ (fun _ h=>h) Qq
 ·rintro⟨ed,cY⟩ BP;simp only at BP;dsimp only;refine J.aw 6 I<|ac I I<|cf I I<|ac I I<|cf I I<|wL I I I (r:=(((min aC.length (min (aC.length+l2.length) t)):Nat):Int)) (by split<;>omega)<|ak rfl rfl<|U.next<|J.seq ?_;have nC:(dE (s+32+aY m t) (aC++l2) (min (aC.length+l2.length) t)).length=(min (aC.length+l2.length) t):=anv (by rw[ee];omega);have yf:(((dE (s+32+aY m t) (aC++l2) (min (aC.length+l2.length) t)).take (min aC.length (min (aC.length+l2.length) t))).map Int.ofNat).length=(min aC.length (min (aC.length+l2.length) t)):=by rw[iK,fW,nC];omega
  have yE:(((dE (s+32+aY m t) (aC++l2) (min (aC.length+l2.length) t)).drop (min aC.length (min (aC.length+l2.length) t))).map Int.ofNat).length=(min (aC.length+l2.length) t)- (min aC.length (min (aC.length+l2.length) t)):=by rw[iK,qV,nC]
  have tB:∀x∈hx 1 0 y (dX cT s),x<256:=If lE;have mI:(fr m t 1 0 y (dX cT s)).length=(s+32+aY m t):=by unfold fr hx;simp only[ee,r9,b5.Yb,Hp,sE,IT]
  have x1:∀x∈(fr m t 1 0 y (dX cT s)),x<256:=fun x af=>(hI.1 af).elim (tB x) (Wm (KO av.mt _) x);have SN:∀k∈(dE (s+32+aY m t) (aC++l2) (min (aC.length+l2.length) t)),k<8*(s+32+aY m t):=aj4 (by omega);obtain⟨yT,avb,rr⟩:=ah5 av xb (by omega) (b:=1) (k:=0) aF (IT cT s) lE (K:=(dE (s+32+aY m t) (aC++l2) (min (aC.length+l2.length) t))) SN (by rw[nC];omega);have H7:e6 (e6 (fr m t 1 0 y (dX cT s)) (((dE (s+32+aY m t) (aC++l2) (min (aC.length+l2.length) t)).take (min aC.length (min (aC.length+l2.length) t))).map Int.ofNat)) (((dE (s+32+aY m t) (aC++l2) (min (aC.length+l2.length) t)).drop (min aC.length (min (aC.length+l2.length) t))).map Int.ofNat)=((dE (s+32+aY m t) (aC++l2) (min (aC.length+l2.length) t)).foldl fY (fr m t 1 0 y (dX cT s))):=by rw[atQ,←n3,FT];exact Wd _ _ (by rw[mI];exact SN)
  have rM:((dE (s+32+aY m t) (aC++l2) (min (aC.length+l2.length) t)).foldl fY (fr m t 1 0 y (dX cT s))).length=(s+32+aY m t):=by rw[←H7,y9,y9,mI]
  have Yz:∀x∈((dE (s+32+aY m t) (aC++l2) (min (aC.length+l2.length) t)).foldl fY (fr m t 1 0 y (dX cT s))),x<256:=by rw[←H7];exact x6 (x6 x1 _) _
  have KI:=afi (sz:=(s+32+aY m t)) (k1:=(((dE (s+32+aY m t) (aC++l2) (min (aC.length+l2.length) t)).take (min aC.length (min (aC.length+l2.length) t))).map Int.ofNat)) (k2:=(((dE (s+32+aY m t) (aC++l2) (min (aC.length+l2.length) t)).drop (min aC.length (min (aC.length+l2.length) t))).map Int.ofNat)) (by omega) (by omega) (by rw[yf];omega) (by rw[yE];omega);have X3:(zh (s+32+aY m t) (fr m t 1 0 y (dX cT s)) (((dE (s+32+aY m t) (aC++l2) (min (aC.length+l2.length) t)).take (min aC.length (min (aC.length+l2.length) t))).map Int.ofNat) (((dE (s+32+aY m t) (aC++l2) (min (aC.length+l2.length) t)).drop (min aC.length (min (aC.length+l2.length) t))).map Int.ofNat)).Ok:=by have:=aeh KI 1 0 x1;rw[PQ mI x1] at this;exact this
  refine J.dQ (bW [0,1,2,3,4,6,7,8] (.hp 5 (cj [9,10,11] (bW [12,13,14,15,16] .done)) (cj [9,5,10,11] (bW [12,13,14,15,16] .done)))) (fun _=>True) mixed (by kernel_rfl) (fun _ h=>h.drew) aJ<|ac I I<|cf I I<|ac I I<|ac I I<|oJ (min aC.length (min (aC.length+l2.length) t)) I I I I (by omega)<|ac I I<|ac I I<|B3 (min aC.length (min (aC.length+l2.length) t)) I I I I (by omega) ?_;refine U.hp ?_ ?_
  ·refine gl I I (cells:= #[.int .i64 0,.int .i64 4,.int .i64 0,.int .i64 0,.slice ed (min aC.length (min (aC.length+l2.length) t)) cY]) (by kernel_rfl)<|gl I I (cells:= #[.int .i64 1,.int .i64 1,.int .i64 (-1),.int .i64 0,.slice (gw ed (min aC.length (min (aC.length+l2.length) t)) 1 cY) ((min (aC.length+l2.length) t)- (min aC.length (min (aC.length+l2.length) t))) (cY- (min aC.length (min (aC.length+l2.length) t)))]) (by kernel_rfl)<|ja I I (cells:= #[.int .i64 0,.int .i64 4,.int .i64 0,.int .i64 0,.slice ed (min aC.length (min (aC.length+l2.length) t)) cY,.int .i64 1,.int .i64 1,.int .i64 (-1),.int .i64 0,.slice (gw ed (min aC.length (min (aC.length+l2.length) t)) 1 cY) ((min (aC.length+l2.length) t)- (min aC.length (min (aC.length+l2.length) t))) (cY- (min aC.length (min (aC.length+l2.length) t)))]) (by kernel_rfl) I aJ (fun qF=>?_);have DD:∀aZ,bF w [aE qF 43 #[.int .i64 0,.int .i64 4,.int .i64 0,.int .i64 0,.slice ed (min aC.length (min (aC.length+l2.length) t)) cY,.int .i64 1,.int .i64 1,.int .i64 (-1),.int .i64 0,.slice (gw ed (min aC.length (min (aC.length+l2.length) t)) 1 cY) ((min (aC.length+l2.length) t)- (min aC.length (min (aC.length+l2.length) t))) (cY- (min aC.length (min (aC.length+l2.length) t)))],own 3 1 ed (min (aC.length+l2.length) t) cY (aA .i64 (dE (s+32+aY m t) (aC++l2) (min (aC.length+l2.length) t))),own 5 1 q.1 (s+32+aY m t) q.2 (aA .u8 (fr m t 1 0 y (dX cT s))),own 5 1 (some ⟨bM,0,none⟩) s s (aA .u8 (dX cT s)),jA c0 m t s mH,aE kR 28 g.cells,aE iD 23 y.cells] aZ→Has (aP 1 ed (min (aC.length+l2.length) t) (aA .i64 (dE (s+32+aY m t) (aC++l2) (min (aC.length+l2.length) t)))) aZ:=fun aZ bG=>(bG.has (i:=1) rfl).dw;have iQ:∀aZ,bF w [aE qF 43 #[.int .i64 0,.int .i64 4,.int .i64 0,.int .i64 0,.slice ed (min aC.length (min (aC.length+l2.length) t)) cY,.int .i64 1,.int .i64 1,.int .i64 (-1),.int .i64 0,.slice (gw ed (min aC.length (min (aC.length+l2.length) t)) 1 cY) ((min (aC.length+l2.length) t)- (min aC.length (min (aC.length+l2.length) t))) (cY- (min aC.length (min (aC.length+l2.length) t)))],own 3 1 ed (min (aC.length+l2.length) t) cY (aA .i64 (dE (s+32+aY m t) (aC++l2) (min (aC.length+l2.length) t))),own 5 1 q.1 (s+32+aY m t) q.2 (aA .u8 (fr m t 1 0 y (dX cT s))),own 5 1 (some ⟨bM,0,none⟩) s s (aA .u8 (dX cT s)),jA c0 m t s mH,aE kR 28 g.cells,aE iD 23 y.cells] aZ→vY (some ⟨qF,0,none⟩) [(⟨0,4,0,0,ed,cY,(((dE (s+32+aY m t) (aC++l2) (min (aC.length+l2.length) t)).take (min aC.length (min (aC.length+l2.length) t))).map Int.ofNat)⟩:cr),(⟨1,1, -1,0,(gw ed (min aC.length (min (aC.length+l2.length) t)) 1 cY),cY- (min aC.length (min (aC.length+l2.length) t)),(((dE (s+32+aY m t) (aC++l2) (min (aC.length+l2.length) t)).drop (min aC.length (min (aC.length+l2.length) t))).map Int.ofNat)⟩:cr)] aZ:=fun aZ bG=>⟨Has.gK ((bG.has (i:=0) rfl).kI (m:=2) rfl) (by show[Value.int .i64 0,.int .i64 4,.int .i64 0,.int .i64 0,.slice ed (min aC.length (min (aC.length+l2.length) t)) cY,.int .i64 1,.int .i64 1,.int .i64 (-1),.int .i64 0,.slice (gw ed (min aC.length (min (aC.length+l2.length) t)) 1 cY) ((min (aC.length+l2.length) t)- (min aC.length (min (aC.length+l2.length) t))) (cY- (min aC.length (min (aC.length+l2.length) t)))]=[Value.int .i64 0,.int .i64 4,.int .i64 0,.int .i64 0,.slice ed (((dE (s+32+aY m t) (aC++l2) (min (aC.length+l2.length) t)).take (min aC.length (min (aC.length+l2.length) t))).map Int.ofNat).length cY,.int .i64 1,.int .i64 1,.int .i64 (-1),.int .i64 0,.slice (gw ed (min aC.length (min (aC.length+l2.length) t)) 1 cY) (((dE (s+32+aY m t) (aC++l2) (min (aC.length+l2.length) t)).drop (min aC.length (min (aC.length+l2.length) t))).map Int.ofNat).length (cY- (min aC.length (min (aC.length+l2.length) t)))];rw[yf,yE]),fun f aI=>by
    rcases ei.1 aI with rfl|aI
    ·show Has (aP 1 ed (((dE (s+32+aY m t) (aC++l2) (min (aC.length+l2.length) t)).take (min aC.length (min (aC.length+l2.length) t))).map Int.ofNat).length (ints .i64 (((dE (s+32+aY m t) (aC++l2) (min (aC.length+l2.length) t)).take (min aC.length (min (aC.length+l2.length) t))).map Int.ofNat))) aZ;rw[yf,←Hv];exact Ua (DD aZ bG) (by omega)
    ·rw[hK] at aI;subst aI;show Has (aP 1 (gw ed (min aC.length (min (aC.length+l2.length) t)) 1 cY) (((dE (s+32+aY m t) (aC++l2) (min (aC.length+l2.length) t)).drop (min aC.length (min (aC.length+l2.length) t))).map Int.ofNat).length (ints .i64 (((dE (s+32+aY m t) (aC++l2) (min (aC.length+l2.length) t)).drop (min aC.length (min (aC.length+l2.length) t))).map Int.ofNat))) aZ;rw[yE,←Hv];exact ab7 (DD aZ bG) (by omega) BP,fun f aI=>by
    rcases ei.1 aI with rfl|aI
    ·show(((dE (s+32+aY m t) (aC++l2) (min (aC.length+l2.length) t)).take (min aC.length (min (aC.length+l2.length) t))).map Int.ofNat).length≤1000000;rw[yf];omega
    ·rw[hK] at aI;subst aI;show(((dE (s+32+aY m t) (aC++l2) (min (aC.length+l2.length) t)).drop (min aC.length (min (aC.length+l2.length) t))).map Int.ofNat).length≤1000000;rw[yE];omega⟩
   refine dh I I I I (X:=Nat×bS) (v:=fun z=>two (.pointer (some ⟨z.1,0,none⟩)) .nilIface) (pf:=fun z=>z.2.abs=uz (s+32+aY m t) (((dE (s+32+aY m t) (aC++l2) (min (aC.length+l2.length) t)).take (min aC.length (min (aC.length+l2.length) t))).map Int.ofNat) (((dE (s+32+aY m t) (aC++l2) (min (aC.length+l2.length) t)).drop (min aC.length (min (aC.length+l2.length) t))).map Int.ofNat)∧z.2.watch=.nilFunc) (dv:=fun z=>[ff z.1 z.2]) (fun aZ bG=>Yu 2 2 (s+32+aY m t) 1 none 0 [] (some ⟨qF,0,none⟩) 2 [(⟨0,4,0,0,ed,cY,(((dE (s+32+aY m t) (aC++l2) (min (aC.length+l2.length) t)).take (min aC.length (min (aC.length+l2.length) t))).map Int.ofNat)⟩:cr),(⟨1,1, -1,0,(gw ed (min aC.length (min (aC.length+l2.length) t)) 1 cY),cY- (min aC.length (min (aC.length+l2.length) t)),(((dE (s+32+aY m t) (aC++l2) (min (aC.length+l2.length) t)).drop (min aC.length (min (aC.length+l2.length) t))).map Int.ofNat)⟩:cr)] e aZ (by decide) (by decide) ⟨by omega,by omega⟩ (by decide) (Has.Io aZ 1 none) (by decide) (fun m hm=>absurd hm we) ((bG.a7 he).jt (by decide+kernel)) (iQ aZ bG) (by simp)) aJ (fun z oe=>?_);obtain⟨gc,p2⟩:=z;simp only at oe;refine ac I I<|cB I I I<|cB I I I<|ak I I<|ak I I<|U.next<|J.seq<|J.aw 13 I<|ac I I<|I5 I I<|ac I I<|ac I I<|jl I I<|ef I I I<|ac I I<|ac I I<|gl I I (cells:= #[.int .i64 1,.int .i64 0]) (by kernel_rfl)<|ac I I<|li [0,0,0,0,0,0,0,0] (M:=[ff gc p2]) (R:=[aE qF 43 #[.int .i64 0,.int .i64 4,.int .i64 0,.int .i64 0,.slice ed (min aC.length (min (aC.length+l2.length) t)) cY,.int .i64 1,.int .i64 1,.int .i64 (-1),.int .i64 0,.slice (gw ed (min aC.length (min (aC.length+l2.length) t)) 1 cY) ((min (aC.length+l2.length) t)- (min aC.length (min (aC.length+l2.length) t))) (cY- (min aC.length (min (aC.length+l2.length) t)))],own 3 1 ed (min (aC.length+l2.length) t) cY (aA .i64 (dE (s+32+aY m t) (aC++l2) (min (aC.length+l2.length) t))),own 5 1 q.1 (s+32+aY m t) q.2 (aA .u8 (fr m t 1 0 y (dX cT s))),own 5 1 (some ⟨bM,0,none⟩) s s (aA .u8 (dX cT s)),jA c0 m t s mH,aE kR 28 g.cells,aE iD 23 y.cells]) (X:=bS) (v:=fun z=>.nilIface) (pf:=fun z=>z.abs=zh (s+32+aY m t) (fr m t 1 0 y (dX cT s)) (((dE (s+32+aY m t) (aC++l2) (min (aC.length+l2.length) t)).take (min aC.length (min (aC.length+l2.length) t))).map Int.ofNat) (((dE (s+32+aY m t) (aC++l2) (min (aC.length+l2.length) t)).drop (min aC.length (min (aC.length+l2.length) t))).map Int.ofNat)∧z.watch=.nilFunc) (fS:=fun z=>[ff gc z]) I I I I I (fun dK ar cy kE=>by have:=acE dK gc p2 (by rw[oe.1];exact KI) 1 0 q.1 q.2 (fr m t 1 0 y (dX cT s)) e ar (fun aZ aI=>((cy aZ aI).a7 he).jt (by decide+kernel)) (fun aZ aI=>((cy aZ aI).a7 he).jt (by decide+kernel)) (fun aZ aI=>((cy aZ aI).a7 he).jt (by decide+kernel)) (fun aZ aI=>((cy aZ aI).a7 he).jt (by decide+kernel)) (fun aZ aI=>by rw[mI];exact((cy aZ aI).has (i:=2) I).dw) x1 kE;rw[mI,oe.1,PQ mI x1,oe.2] at this;exact this) (fun _ _ _=>trivial)<|fun jf q8=>jl I I<|ef I I I<|U.next<|J.dy I<|J.skip<|al.code<|J.aw 8 I<|ac I I<|gl I I (cells:= #[.int .i64 1,.int .i64 0]) (by kernel_rfl)<|li [0,0,0,0,0,0,0,0] (M:=[ff gc jf]) (R:=[aE qF 43 #[.int .i64 0,.int .i64 4,.int .i64 0,.int .i64 0,.slice ed (min aC.length (min (aC.length+l2.length) t)) cY,.int .i64 1,.int .i64 1,.int .i64 (-1),.int .i64 0,.slice (gw ed (min aC.length (min (aC.length+l2.length) t)) 1 cY) ((min (aC.length+l2.length) t)- (min aC.length (min (aC.length+l2.length) t))) (cY- (min aC.length (min (aC.length+l2.length) t)))],own 3 1 ed (min (aC.length+l2.length) t) cY (aA .i64 (dE (s+32+aY m t) (aC++l2) (min (aC.length+l2.length) t))),own 5 1 q.1 (s+32+aY m t) q.2 (aA .u8 (fr m t 1 0 y (dX cT s))),own 5 1 (some ⟨bM,0,none⟩) s s (aA .u8 (dX cT s)),jA c0 m t s mH,aE kR 28 g.cells,aE iD 23 y.cells]) (X:=(aN×Nat)×bS) (v:=fun z=>two (.slice z.1.1 (s+32+aY m t) z.1.2) .nilIface) (pf:=fun z=>True) (fS:=fun z=>[own 5 1 z.1.1 (s+32+aY m t) z.1.2 (aA .u8 ((dE (s+32+aY m t) (aC++l2) (min (aC.length+l2.length) t)).foldl fY (fr m t 1 0 y (dX cT s)))),ff gc z.2]) I I I I I (fun dK ar cy kE=>by have:=vC dK gc jf (by rw[q8.1];exact X3) 1 0 0 e ar q8.2 (fun aZ aI=>((cy aZ aI).a7 he).jt (by decide+kernel)) (fun aZ aI=>((cy aZ aI).a7 he).jt (by decide+kernel)) (fun aZ aI=>((cy aZ aI).a7 he).jt (by decide+kernel)) kE;rw[q8.1,XX,H7,rM] at this;exact this.mono (fun _ _ ⟨z,k1,_,bx⟩=>⟨z,k1,trivial,bx⟩)) (fun _ _ _=>trivial)<|fun jo _=>ac I I<|cB I I I<|cB I I I<|ak I I<|ak I I<|U.bl 10 I<|ac I I<|gl I I (cells:= #[.int .i64 1,.int .i64 0]) (by kernel_rfl)<|ac I I<|dh I I I I (X:=aN×Nat) (v:=fun z=>two ((⟨1,y,dX cT s,yT⟩:ta).v z) .nilIface) (pf:=fun _=>True) (dv:=fun z=>[own 5 1 z.1 (dX cT s).length z.2 (aA .u8 (dX cT s))]) (fun aZ bG=>by have:=Ma c0 m t s mH 1 0 jo.1.1 (s+32+aY m t) jo.1.2 ((dE (s+32+aY m t) (aC++l2) (min (aC.length+l2.length) t)).foldl fY (fr m t 1 0 y (dX cT s))) e aZ av (bG.has (i:=6) I) Yz I ((bG.has (i:=0) I).ms).2.1 ((bG.has (i:=0) I).dw) ((bG.a7 he).jt (by decide+kernel)) ((bG.a7 he).jt (by decide+kernel));rw[rr] at this;exact this.mono (fun _ _ ⟨z,k1,_,bx⟩=>⟨z,k1,trivial,bx⟩)) aJ<|fun y7 _=>ac I I<|cB I I I<|cB I I I<|gg I aJ<|fun Md=>fE 0 I I (by kernel_rfl) I I I I aJ<|ak I I<|U.bl 31 I<|ac I I<|Ak I I<|ac I I<|ac I I<|Ak I I<|fe I I I<|ac I I<|bd I I<|cm 0 I I I (v:=.int .i64 1) I<|gy I I I (ek I)<|fe I I I<|ac I I<|bd I I<|pj (cs:=y.q2) I I I (fun w hw j v ax=>(hw.has (i:=0) I).fI (aaf 1 y _ yT ax))<|ie 10 I I I<|bJ I I I I (fun w hw=>X5 y w) aJ<|fe I I I<|ac I I<|bd I I<|cm 0 I I I (v:=bE y7 (dX cT s).length) I<|ac I I<|bJ I I I I (v:=.bool true) (fun aZ bG=>by have:=P2 y7.1 (dX cT s).length y7.2 (dX cT s) (some ⟨bM,0,none⟩) s s (dX cT s) aZ ((bG.has (i:=1) I).dw) lE ((bG.has (i:=7) I).dw) lE;rw[ek rfl] at this;exact this) aJ<|fe I I I<|ac I I<|bd I I<|cm 0 I I I (v:=.int .i64 (yT:Nat)) I<|bd I I<|cm 9 I I I (v:=.int .i64 (t:Nat)) (by rw[←nd];rfl)<|Bu rfl rfl rfl (ek (by omega))<|fe rfl rfl rfl<|ak rfl rfl<|U.next<|J.ret ?_;exact al.ret Tryz.results3 I (fun w hw=>⟨I,hw.nothing⟩)
  ·refine gl I I (cells:= #[.int .i64 1,.int .i64 1,.int .i64 (-1),.int .i64 0,.slice (gw ed (min aC.length (min (aC.length+l2.length) t)) 1 cY) ((min (aC.length+l2.length) t)- (min aC.length (min (aC.length+l2.length) t))) (cY- (min aC.length (min (aC.length+l2.length) t)))]) (by kernel_rfl)<|gl I I (cells:= #[.int .i64 0,.int .i64 4,.int .i64 0,.int .i64 0,.slice ed (min aC.length (min (aC.length+l2.length) t)) cY]) (by kernel_rfl)<|ja I I (cells:= #[.int .i64 0,.int .i64 4,.int .i64 0,.int .i64 0,.slice ed (min aC.length (min (aC.length+l2.length) t)) cY,.int .i64 1,.int .i64 1,.int .i64 (-1),.int .i64 0,.slice (gw ed (min aC.length (min (aC.length+l2.length) t)) 1 cY) ((min (aC.length+l2.length) t)- (min aC.length (min (aC.length+l2.length) t))) (cY- (min aC.length (min (aC.length+l2.length) t)))]) (by kernel_rfl) I aJ (fun qF=>?_);have DD:∀aZ,bF w [aE qF 43 #[.int .i64 0,.int .i64 4,.int .i64 0,.int .i64 0,.slice ed (min aC.length (min (aC.length+l2.length) t)) cY,.int .i64 1,.int .i64 1,.int .i64 (-1),.int .i64 0,.slice (gw ed (min aC.length (min (aC.length+l2.length) t)) 1 cY) ((min (aC.length+l2.length) t)- (min aC.length (min (aC.length+l2.length) t))) (cY- (min aC.length (min (aC.length+l2.length) t)))],own 3 1 ed (min (aC.length+l2.length) t) cY (aA .i64 (dE (s+32+aY m t) (aC++l2) (min (aC.length+l2.length) t))),own 5 1 q.1 (s+32+aY m t) q.2 (aA .u8 (fr m t 1 0 y (dX cT s))),own 5 1 (some ⟨bM,0,none⟩) s s (aA .u8 (dX cT s)),jA c0 m t s mH,aE kR 28 g.cells,aE iD 23 y.cells] aZ→Has (aP 1 ed (min (aC.length+l2.length) t) (aA .i64 (dE (s+32+aY m t) (aC++l2) (min (aC.length+l2.length) t)))) aZ:=fun aZ bG=>(bG.has (i:=1) rfl).dw;have iQ:∀aZ,bF w [aE qF 43 #[.int .i64 0,.int .i64 4,.int .i64 0,.int .i64 0,.slice ed (min aC.length (min (aC.length+l2.length) t)) cY,.int .i64 1,.int .i64 1,.int .i64 (-1),.int .i64 0,.slice (gw ed (min aC.length (min (aC.length+l2.length) t)) 1 cY) ((min (aC.length+l2.length) t)- (min aC.length (min (aC.length+l2.length) t))) (cY- (min aC.length (min (aC.length+l2.length) t)))],own 3 1 ed (min (aC.length+l2.length) t) cY (aA .i64 (dE (s+32+aY m t) (aC++l2) (min (aC.length+l2.length) t))),own 5 1 q.1 (s+32+aY m t) q.2 (aA .u8 (fr m t 1 0 y (dX cT s))),own 5 1 (some ⟨bM,0,none⟩) s s (aA .u8 (dX cT s)),jA c0 m t s mH,aE kR 28 g.cells,aE iD 23 y.cells] aZ→vY (some ⟨qF,0,none⟩) [(⟨0,4,0,0,ed,cY,(((dE (s+32+aY m t) (aC++l2) (min (aC.length+l2.length) t)).take (min aC.length (min (aC.length+l2.length) t))).map Int.ofNat)⟩:cr),(⟨1,1, -1,0,(gw ed (min aC.length (min (aC.length+l2.length) t)) 1 cY),cY- (min aC.length (min (aC.length+l2.length) t)),(((dE (s+32+aY m t) (aC++l2) (min (aC.length+l2.length) t)).drop (min aC.length (min (aC.length+l2.length) t))).map Int.ofNat)⟩:cr)] aZ:=fun aZ bG=>⟨Has.gK ((bG.has (i:=0) rfl).kI (m:=2) rfl) (by show[Value.int .i64 0,.int .i64 4,.int .i64 0,.int .i64 0,.slice ed (min aC.length (min (aC.length+l2.length) t)) cY,.int .i64 1,.int .i64 1,.int .i64 (-1),.int .i64 0,.slice (gw ed (min aC.length (min (aC.length+l2.length) t)) 1 cY) ((min (aC.length+l2.length) t)- (min aC.length (min (aC.length+l2.length) t))) (cY- (min aC.length (min (aC.length+l2.length) t)))]=[Value.int .i64 0,.int .i64 4,.int .i64 0,.int .i64 0,.slice ed (((dE (s+32+aY m t) (aC++l2) (min (aC.length+l2.length) t)).take (min aC.length (min (aC.length+l2.length) t))).map Int.ofNat).length cY,.int .i64 1,.int .i64 1,.int .i64 (-1),.int .i64 0,.slice (gw ed (min aC.length (min (aC.length+l2.length) t)) 1 cY) (((dE (s+32+aY m t) (aC++l2) (min (aC.length+l2.length) t)).drop (min aC.length (min (aC.length+l2.length) t))).map Int.ofNat).length (cY- (min aC.length (min (aC.length+l2.length) t)))];rw[yf,yE]),fun f aI=>by
    rcases ei.1 aI with rfl|aI
    ·show Has (aP 1 ed (((dE (s+32+aY m t) (aC++l2) (min (aC.length+l2.length) t)).take (min aC.length (min (aC.length+l2.length) t))).map Int.ofNat).length (ints .i64 (((dE (s+32+aY m t) (aC++l2) (min (aC.length+l2.length) t)).take (min aC.length (min (aC.length+l2.length) t))).map Int.ofNat))) aZ;rw[yf,←Hv];exact Ua (DD aZ bG) (by omega)
    ·rw[hK] at aI;subst aI;show Has (aP 1 (gw ed (min aC.length (min (aC.length+l2.length) t)) 1 cY) (((dE (s+32+aY m t) (aC++l2) (min (aC.length+l2.length) t)).drop (min aC.length (min (aC.length+l2.length) t))).map Int.ofNat).length (ints .i64 (((dE (s+32+aY m t) (aC++l2) (min (aC.length+l2.length) t)).drop (min aC.length (min (aC.length+l2.length) t))).map Int.ofNat))) aZ;rw[yE,←Hv];exact ab7 (DD aZ bG) (by omega) BP,fun f aI=>by
    rcases ei.1 aI with rfl|aI
    ·show(((dE (s+32+aY m t) (aC++l2) (min (aC.length+l2.length) t)).take (min aC.length (min (aC.length+l2.length) t))).map Int.ofNat).length≤1000000;rw[yf];omega
    ·rw[hK] at aI;subst aI;show(((dE (s+32+aY m t) (aC++l2) (min (aC.length+l2.length) t)).drop (min aC.length (min (aC.length+l2.length) t))).map Int.ofNat).length≤1000000;rw[yE];omega⟩
   refine dh I I I I (X:=Nat×bS) (v:=fun z=>two (.pointer (some ⟨z.1,0,none⟩)) .nilIface) (pf:=fun z=>z.2.abs=uz (s+32+aY m t) (((dE (s+32+aY m t) (aC++l2) (min (aC.length+l2.length) t)).take (min aC.length (min (aC.length+l2.length) t))).map Int.ofNat) (((dE (s+32+aY m t) (aC++l2) (min (aC.length+l2.length) t)).drop (min aC.length (min (aC.length+l2.length) t))).map Int.ofNat)∧z.2.watch=.nilFunc) (dv:=fun z=>[ff z.1 z.2]) (fun aZ bG=>Yu 2 2 (s+32+aY m t) 1 none 0 [] (some ⟨qF,0,none⟩) 2 [(⟨0,4,0,0,ed,cY,(((dE (s+32+aY m t) (aC++l2) (min (aC.length+l2.length) t)).take (min aC.length (min (aC.length+l2.length) t))).map Int.ofNat)⟩:cr),(⟨1,1, -1,0,(gw ed (min aC.length (min (aC.length+l2.length) t)) 1 cY),cY- (min aC.length (min (aC.length+l2.length) t)),(((dE (s+32+aY m t) (aC++l2) (min (aC.length+l2.length) t)).drop (min aC.length (min (aC.length+l2.length) t))).map Int.ofNat)⟩:cr)] e aZ (by decide) (by decide) ⟨by omega,by omega⟩ (by decide) (Has.Io aZ 1 none) (by decide) (fun m hm=>absurd hm we) ((bG.a7 he).jt (by decide+kernel)) (iQ aZ bG) (by simp)) aJ (fun z oe=>?_);obtain⟨gc,p2⟩:=z;simp only at oe;refine ac I I<|cB I I I<|cB I I I<|ak I I<|ak I I<|U.next<|J.seq<|J.aw 13 I<|ac I I<|I5 I I<|ac I I<|ac I I<|jl I I<|ef I I I<|ac I I<|ac I I<|gl I I (cells:= #[.int .i64 1,.int .i64 0]) (by kernel_rfl)<|ac I I<|li [0,0,0,0,0,0,0,0] (M:=[ff gc p2]) (R:=[aE qF 43 #[.int .i64 0,.int .i64 4,.int .i64 0,.int .i64 0,.slice ed (min aC.length (min (aC.length+l2.length) t)) cY,.int .i64 1,.int .i64 1,.int .i64 (-1),.int .i64 0,.slice (gw ed (min aC.length (min (aC.length+l2.length) t)) 1 cY) ((min (aC.length+l2.length) t)- (min aC.length (min (aC.length+l2.length) t))) (cY- (min aC.length (min (aC.length+l2.length) t)))],own 3 1 ed (min (aC.length+l2.length) t) cY (aA .i64 (dE (s+32+aY m t) (aC++l2) (min (aC.length+l2.length) t))),own 5 1 q.1 (s+32+aY m t) q.2 (aA .u8 (fr m t 1 0 y (dX cT s))),own 5 1 (some ⟨bM,0,none⟩) s s (aA .u8 (dX cT s)),jA c0 m t s mH,aE kR 28 g.cells,aE iD 23 y.cells]) (X:=bS) (v:=fun z=>.nilIface) (pf:=fun z=>z.abs=zh (s+32+aY m t) (fr m t 1 0 y (dX cT s)) (((dE (s+32+aY m t) (aC++l2) (min (aC.length+l2.length) t)).take (min aC.length (min (aC.length+l2.length) t))).map Int.ofNat) (((dE (s+32+aY m t) (aC++l2) (min (aC.length+l2.length) t)).drop (min aC.length (min (aC.length+l2.length) t))).map Int.ofNat)∧z.watch=.nilFunc) (fS:=fun z=>[ff gc z]) I I I I I (fun dK ar cy kE=>by have:=acE dK gc p2 (by rw[oe.1];exact KI) 1 0 q.1 q.2 (fr m t 1 0 y (dX cT s)) e ar (fun aZ aI=>((cy aZ aI).a7 he).jt (by decide+kernel)) (fun aZ aI=>((cy aZ aI).a7 he).jt (by decide+kernel)) (fun aZ aI=>((cy aZ aI).a7 he).jt (by decide+kernel)) (fun aZ aI=>((cy aZ aI).a7 he).jt (by decide+kernel)) (fun aZ aI=>by rw[mI];exact((cy aZ aI).has (i:=2) I).dw) x1 kE;rw[mI,oe.1,PQ mI x1,oe.2] at this;exact this) (fun _ _ _=>trivial)<|fun jf q8=>jl I I<|ef I I I<|U.next<|J.dy I<|J.skip<|al.code<|J.aw 8 I<|ac I I<|gl I I (cells:= #[.int .i64 1,.int .i64 0]) (by kernel_rfl)<|li [0,0,0,0,0,0,0,0] (M:=[ff gc jf]) (R:=[aE qF 43 #[.int .i64 0,.int .i64 4,.int .i64 0,.int .i64 0,.slice ed (min aC.length (min (aC.length+l2.length) t)) cY,.int .i64 1,.int .i64 1,.int .i64 (-1),.int .i64 0,.slice (gw ed (min aC.length (min (aC.length+l2.length) t)) 1 cY) ((min (aC.length+l2.length) t)- (min aC.length (min (aC.length+l2.length) t))) (cY- (min aC.length (min (aC.length+l2.length) t)))],own 3 1 ed (min (aC.length+l2.length) t) cY (aA .i64 (dE (s+32+aY m t) (aC++l2) (min (aC.length+l2.length) t))),own 5 1 q.1 (s+32+aY m t) q.2 (aA .u8 (fr m t 1 0 y (dX cT s))),own 5 1 (some ⟨bM,0,none⟩) s s (aA .u8 (dX cT s)),jA c0 m t s mH,aE kR 28 g.cells,aE iD 23 y.cells]) (X:=(aN×Nat)×bS) (v:=fun z=>two (.slice z.1.1 (s+32+aY m t) z.1.2) .nilIface) (pf:=fun z=>True) (fS:=fun z=>[own 5 1 z.1.1 (s+32+aY m t) z.1.2 (aA .u8 ((dE (s+32+aY m t) (aC++l2) (min (aC.length+l2.length) t)).foldl fY (fr m t 1 0 y (dX cT s)))),ff gc z.2]) I I I I I (fun dK ar cy kE=>by have:=vC dK gc jf (by rw[q8.1];exact X3) 1 0 0 e ar q8.2 (fun aZ aI=>((cy aZ aI).a7 he).jt (by decide+kernel)) (fun aZ aI=>((cy aZ aI).a7 he).jt (by decide+kernel)) (fun aZ aI=>((cy aZ aI).a7 he).jt (by decide+kernel)) kE;rw[q8.1,XX,H7,rM] at this;exact this.mono (fun _ _ ⟨z,k1,_,bx⟩=>⟨z,k1,trivial,bx⟩)) (fun _ _ _=>trivial)<|fun jo _=>ac I I<|cB I I I<|cB I I I<|ak I I<|ak I I<|U.bl 10 I<|ac I I<|gl I I (cells:= #[.int .i64 1,.int .i64 0]) (by kernel_rfl)<|ac I I<|dh I I I I (X:=aN×Nat) (v:=fun z=>two ((⟨1,y,dX cT s,yT⟩:ta).v z) .nilIface) (pf:=fun _=>True) (dv:=fun z=>[own 5 1 z.1 (dX cT s).length z.2 (aA .u8 (dX cT s))]) (fun aZ bG=>by have:=Ma c0 m t s mH 1 0 jo.1.1 (s+32+aY m t) jo.1.2 ((dE (s+32+aY m t) (aC++l2) (min (aC.length+l2.length) t)).foldl fY (fr m t 1 0 y (dX cT s))) e aZ av (bG.has (i:=6) I) Yz I ((bG.has (i:=0) I).ms).2.1 ((bG.has (i:=0) I).dw) ((bG.a7 he).jt (by decide+kernel)) ((bG.a7 he).jt (by decide+kernel));rw[rr] at this;exact this.mono (fun _ _ ⟨z,k1,_,bx⟩=>⟨z,k1,trivial,bx⟩)) aJ<|fun y7 _=>ac I I<|cB I I I<|cB I I I<|gg I aJ<|fun Md=>fE 0 I I (by kernel_rfl) I I I I aJ<|ak I I<|U.bl 31 I<|ac I I<|Ak I I<|ac I I<|ac I I<|Ak I I<|fe I I I<|ac I I<|bd I I<|cm 0 I I I (v:=.int .i64 1) I<|gy I I I (ek I)<|fe I I I<|ac I I<|bd I I<|pj (cs:=y.q2) I I I (fun w hw j v ax=>(hw.has (i:=0) I).fI (aaf 1 y _ yT ax))<|ie 10 I I I<|bJ I I I I (fun w hw=>X5 y w) aJ<|fe I I I<|ac I I<|bd I I<|cm 0 I I I (v:=bE y7 (dX cT s).length) I<|ac I I<|bJ I I I I (v:=.bool true) (fun aZ bG=>by have:=P2 y7.1 (dX cT s).length y7.2 (dX cT s) (some ⟨bM,0,none⟩) s s (dX cT s) aZ ((bG.has (i:=1) I).dw) lE ((bG.has (i:=7) I).dw) lE;rw[ek rfl] at this;exact this) aJ<|fe I I I<|ac I I<|bd I I<|cm 0 I I I (v:=.int .i64 (yT:Nat)) I<|bd I I<|cm 9 I I I (v:=.int .i64 (t:Nat)) (by rw[←nd];rfl)<|Bu rfl rfl rfl (ek (by omega))<|fe rfl rfl rfl<|ak rfl rfl<|U.next<|J.ret ?_;exact al.ret Tryz.results3 I (fun w hw=>⟨I,hw.nothing⟩)
end Go.Proofs.YtcgjepodnfjggaaGreatDoor
end
section
namespace Go.Proofs.YtcgjepodnfjggaaGreatDoor
open Go Go.a6 Go.cv
def BX(aR low r b:Nat):Nat:=bif Nat.beq (Nat.mod (Nat.div r (2^(aR- 1))) 2) b then Nat.mod (2*r) (2^aR) else Nat.xor (Nat.mod (2*r) (2^aR)) low
def DU(aR low r y:Nat):Nat→Nat
 |0=>r
 |i+1=>DU aR low (BX aR low r (Nat.mod (Nat.div y (2^i)) 2)) y i
def yS(aR low:Nat):ae→Nat
 |[]=>0
 |y::l=>DU aR low (yS aR low l) y 8
def sM:Nat→Nat→ae
 |0,_=>[]
 |n+1,r=>Nat.mod r 256::sM n (Nat.div r 256)
def IN(aR:Nat):ae→ae
 |[]=>[]
 |[x]=>[bif Nat.blt 0 (Nat.mod aR 8) then Nat.lor x (Nat.mod (255*2^(Nat.mod aR 8)) 256) else x]
 |x::y::l=>x::IN aR (y::l)
def QY(aR low ha:Nat)(b:ae):ae:=b++IN aR (sM ha (yS aR low b))
def yl:ae→Nat
 |[]=>0
 |x::l=>x+256*yl l
def MH(aR low:Nat)(d p:ae):Bool:=Nat.beq (yS aR low d) (Nat.mod (yl p) (2^aR))
def Dl:ae→Bool
 |[]=>true
 |x::l=>Nat.beq x 255&&Dl l
def Iw(p:ae):Nat:=bif Dl p then 0 else e2 p
def Rl(aR low t S:Nat)(bad:List (ae))(b k:Int)(p:ae):Option ta:=
 bif Nat.ble (Iw p) t then some (rh 2) else
 bif MH aR low (p.take (S+32)) (p.drop (S+32)) then
  (bif kK ((p.take (S+32)).drop S) (fC (hl (ib b k)) (p.take S)) then some ⟨1,b5.lR ((p.take (S+32)).drop S),fC (hl (ib b k)) (p.take S),0⟩ else some (rh 3)) else
 bif bad.contains p then some (rh 3) else none
end Go.Proofs.YtcgjepodnfjggaaGreatDoor
end
section
namespace Go.In
open Go Go.a6
noncomputable section
inductive T(α:Type) where
 |leaf
 |node (l:T α) (v:Option α) (r:T α)
variable{α:Type}
def T.get:T α→Nat→Option α:=@T.rec α (fun _=>Nat→Option α) (fun _=>none) (fun _ v _ e5 xa k=>@Bool.rec (fun _=>Option α) (@Bool.rec (fun _=>Option α) (xa (Nat.sub (Nat.div k 2) 1)) (e5 (Nat.div k 2)) (Nat.beq (Nat.mod k 2) 1)) v (Nat.beq k 0))
def T.AU(u:Option α)(l:T α)(v:Option α)(r:T α)(pl ha:Nat→T α)(k:Nat):T α:=@Bool.rec (fun _=>T α) (@Bool.rec (fun _=>T α) (.node l v (ha (Nat.sub (Nat.div k 2) 1))) (.node (pl (Nat.div k 2)) v r) (Nat.beq (Nat.mod k 2) 1)) (.node l u r) (Nat.beq k 0)
def T.Jq(u:Option α):Nat→Nat→T α:=@Nat.rec (fun _=>Nat→T α) (fun _=>.leaf) (fun _ ih k=>T.AU u .leaf none .leaf ih ih k)
def T.Ls(u:Option α):T α→Nat→T α:=@T.rec α (fun _=>Nat→T α) (fun k=>T.Jq u (Nat.succ k) k) (fun l v r pl ha k=>T.AU u l v r pl ha k)
def T.put(t:T α)(k:Nat)(v:α):T α:=T.Ls (some v) t k
def T.del(t:T α)(k:Nat):T α:=T.Ls none t k
inductive ai where
 |b (x:Bool)
 |i (k:cg) (n:Int)
 |str (s:ByteArray)
 |p (id off:Nat)
 |qK
 |hY (g:Nat)
 |tv (c:Nat)
 |s (id off len cap:Nat)
 |aP (id sz lo len:Nat)
 |oF (id sz b lo:Nat)
 |ck
 |m (id:Nat)
 |nT
 |fn (f:Fn) (a c:List ai)
 |rC
 |kX (t:aO) (v:ai)
 |j0
 |agg (cs:List ai)
 |fi (vs:List ai)
inductive bQ where
 |cells (ty:aO) (cs:List ai)
 |row (ty sz n:Nat) (cs:List ai)
 |map (es:List (ai×ai×Nat)) (clock:Nat)
 |iter (m:eu) (since:Nat) (seen:ae) (last:Nat)
 |loop (bB:LoopState) (yI:Option Code) (fn:dn) (env:T ai) (params:List Tmp) (assign body:Code) (mB:Nat)
 |qc
 |la (k:Nat)
structure Mem where
 n:Nat
 h:T bQ
def Mem.new(σ:Mem)(o:bQ):Mem:=⟨σ.n+1,σ.h.put σ.n o⟩
def Mem.set(σ:Mem)(id:Nat)(o:bQ):Mem:=⟨σ.n,σ.h.put id o⟩
def Mem.kill(σ:Mem)(id:Nat):Mem:=⟨σ.n,σ.h.del id⟩
def zX:aV→Option ai
 |.bool x=>some (.b x)
 |.int k n=>some (.i k n)
 |.pointer none=>some .qK
 |.slice none 0 0=>some .ck
 |.map none=>some .nT
 |.nilFunc=>some .rC
 |.nilIface=>some .j0
 |_=>none
def za:cw→Option (List ai)
 |[]=>some []
 |v::r=>(zX v).bind fun x=>(za r).map (x:: ·)
def Hw:aV→Option ai
 |.agg cs=>(za cs.toList).map .agg
 |v=>zX v
def ai.cells:ai→List ai
 |.agg cs=>cs
 |v=>[v]
abbrev bp:=T ai
def dt(e:bp):bf→Option ai
 |.tmp t=>e.get t
 |.const v=>zX v
 |.global g=>some (.hY g)
 |.func f=>some (.fn (.func f) [] [])
def oB(e:bp):List bf→Option (List ai)
 |[]=>some []
 |x::r=>(dt e x).bind fun v=>(oB e r).map (v:: ·)
def Jf:ai→ai→Option Bool
 |.i k a,.i cb b=>if k=cb then some (decide (a=b)) else none
 |_,_=>none
def vr:List ai→List ai→Option Bool
 |[],[]=>some true
 |a::r,b::q=>(Jf a b).bind fun x=>bif x then vr r q else(vr r q).map fun _=>false
 |_,_=>none
def Ba:ai→ai→Option Bool
 |.i k a,.i cb b=>Jf (.i k a) (.i cb b)
 |.agg xs,.agg ys=>vr xs ys
 |_,_=>none
def vo(P:a8)(t:aO):Nat:=match P.underlying t with
 |some .bool=>1
 |some (.pointer el)=>match P.info? el with
  |some i=>bif Nat.beq i.size 0 then 0 else 2
  |none=>0
 |some (.interface _)=>3
 |some (.func _ _ _)=>4
 |some (.slice _)=>5
 |some (.map _ _)=>6
 |_=>0
def Qs:ai→ai→Option Bool
 |.b x,.b y=>some (x==y)
 |_,_=>none
def GA:ai→ai→Option Bool
 |.qK,.qK=>some true
 |.qK,.p _ _=>some false
 |.p _ _,.qK=>some false
 |.p a o,.p b q=>bif Nat.beq a b then some (Nat.beq o q) else none
 |_,_=>none
abbrev x7:Nat:=18
def St:ai→ai→Option Bool
 |.tv a,.tv b=>bif Nat.blt a x7&&Nat.blt b x7 then some (Nat.beq a b) else none
 |_,_=>none
def Rg(P:a8)(t:aO):Bool:=Nat.beq (vo P t) 2&&(match P.info? t with|some i=>i.comparable|none=>false)
def IP(P:a8)(c:Bool):ai→ai→Option Bool
 |.j0,.j0=>bif c then some true else none
 |.j0,.kX _ _=>some false
 |.kX _ _,.j0=>some false
 |.kX t x,.kX u y=>bif Nat.beq t u then(bif Rg P t then St x y else none) else some false
 |_,_=>none
def P6:ai→ai→Option Bool
 |.rC,.rC=>some true
 |.rC,.fn _ _ _=>some false
 |.fn _ _ _,.rC=>some false
 |_,_=>none
def RL:ai→ai→Option Bool
 |.ck,.ck=>some true
 |.ck,.s _ _ _ _=>some false
 |.ck,.aP _ _ _ _=>some false
 |.ck,.oF _ _ _ _=>some false
 |.s _ _ _ _,.ck=>some false
 |.aP _ _ _ _,.ck=>some false
 |.oF _ _ _ _,.ck=>some false
 |_,_=>none
def Of:ai→ai→Option Bool
 |.nT,.nT=>some true
 |.nT,.m _=>some false
 |.m _,.nT=>some false
 |_,_=>none
def y4(P:a8)(c:Bool)(t:aO)(x y:ai):Option Bool:=match vo P t with
 |1=>Qs x y
 |2=>GA x y
 |3=>IP P c x y
 |4=>P6 x y
 |5=>RL x y
 |6=>Of x y
 |_=>none
def w3:bf→Bool
 |.const _=>true
 |_=>false
section
variable(P:a8)
def yj(t:aO):Option Bool:=match P.underlying t with
 |some (.struct _)=>some true
 |some (.array _ _)=>some true
 |some _=>some false
 |none=>none
def ko(t:aO):eu:=match P.info? t with
 |some i=>some i.size
 |none=>none
def r3(t:aO):Option ai:=match P.info? t with
 |some i=>match i.zero with
  |some v=>Hw v
  |none=>none
 |none=>none
def va(t:aO):Option aO:=match P.underlying t with
 |some (.slice e)=>some e
 |_=>none
def JU(t:aO):eu:=match P.info? t with
 |some i=>some i.bytes
 |none=>none
def Jv(t:aO):Option cg:=match P.underlying t with
 |some (.int k)=>some k
 |_=>none
def Iz(t:aO)(f:Nat):Option (Nat×aO):=match P.underlying t with
 |some (.struct cZ)=>match cZ[f]? with
  |some fl=>match P.info? fl.type with
   |some i=>bif Nat.beq i.size 0 then none else some (fl.offset,fl.type)
   |none=>none
  |none=>none
 |_=>none
def cellsOf:bQ→Option (List ai)
 |.cells _ cs=>some cs
 |.row _ _ _ cs=>some cs
 |_=>none
def setCells(cs:List ai):bQ→bQ
 |.cells t _=>.cells t cs
 |.row t sz n _=>.row t sz n cs
 |o=>o
def takeN:Nat→List ai→Option (List ai)
 |0,_=>some []
 |n+1,x::r=>(takeN n r).map (x:: ·)
 |_+1,[]=>none
def Sm:Nat→List ai→List ai
 |0,l=>l
 |n+1,_::r=>Sm n r
 |_+1,[]=>[]
def slice?(cs:List ai)(off n:Nat):Option (List ai):=takeN n (Sm off cs)
def over:List ai→Nat→List ai→Option (List ai)
 |cs,0,[]=>some cs
 |_::r,0,v::vs=>(over r 0 vs).map (v:: ·)
 |x::r,n+1,vs=>(over r n vs).map (x:: ·)
 |[],_,_=>none
def Mem.zf(σ:Mem)(id:Nat):Option (List ai):=(σ.h.get id).bind cellsOf
def Mem.read(σ:Mem)(id off n:Nat):Option (List ai):=(σ.zf id).bind fun cs=>slice? cs off n
def Mem.write(σ:Mem)(id off:Nat)(vs:List ai):Option Mem:=(σ.h.get id).bind fun o=>(cellsOf o).bind fun cs=>(over cs off vs).map fun dW=>σ.set id (setCells dW o)
variable(G:Nat→Option ai)
def sn(σ:Mem)(t:aO):ai→Option ai
 |.p id off=>(yj P t).bind fun r=>(ko P t).bind fun n=>bif r then(σ.read id off n).map .agg else bif Nat.beq n 1 then(σ.zf id).bind fun cs=>cs[off]? else none
 |.hY g=>(yj P t).bind fun r=>(ko P t).bind fun n=>bif r then none else bif Nat.beq n 1 then G g else none
 |_=>none
def LN:ai→Bool
 |.agg _=>false
 |.fi _=>false
 |_=>true
def ni:List ai→Bool
 |[]=>true
 |x::r=>LN x&&ni r
def YU(σ:Mem)(t:aO)(a v:ai):Option Mem:=match a with
 |.p id off=>(ko P t).bind fun n=>bif Nat.beq n v.cells.length&&ni v.cells then σ.write id off v.cells else none
 |_=>none
def pQ(σ:Mem)(sz:Nat):ai→Option (List ai)
 |.ck=>some []
 |.oF _ _ _ _=>some []
 |.s id off len _=>bif Nat.beq len 0 then some [] else σ.read id off (len*sz)
 |.aP id z lo len=>bif Nat.beq z sz then bif Nat.beq len 0 then some [] else σ.read id (lo*sz) (len*sz) else none
 |_=>none
def tb:ai→eu
 |.ck=>some 0
 |.oF _ _ _ _=>some 0
 |.s _ _ len _=>some len
 |.aP _ _ _ len=>some len
 |_=>none
def acA(sz:Nat)(x:ai)(j:Int):Option ai:=match x,j with
 |.s id off len _,.ofNat q=>bif Nat.blt q len then some (.p id (off+q*sz)) else none
 |.aP id z lo len,.ofNat q=>bif Nat.beq z sz&&Nat.blt q len then some (.p id (lo*sz+q*sz)) else none
 |_,_=>none
def l4(d:Nat):Option ai→Option (eu)
 |none=>some none
 |some (.i _ (.ofNat q))=>bif Nat.ble q d then some (some q) else none
 |_=>none
def Rc(sz:Nat)(x:ai)(lo hi mx:Option ai):Option ai:=match x with
 |.ck=>(l4 0 mx).bind fun m=>(l4 (m.getD 0) hi).bind fun h=>bif m.isSome&&h.isNone then none else(l4 (h.getD 0) lo).map fun _=>.ck
 |.s id off len cap=>(l4 cap mx).bind fun m=>(l4 (m.getD cap) hi).bind fun h=>bif m.isSome&&h.isNone then none else(l4 (h.getD len) lo).bind fun l=>
   let ea:=l.getD 0;let dS:=h.getD len;let fN:=m.getD cap
   bif Nat.ble ea dS&&Nat.ble dS fN then some (.s id (bif Nat.beq fN ea then off else off+ea*sz) (dS- ea) (fN- ea)) else none
 |.aP id z b len=>bif Nat.beq z sz then(l4 len mx).bind fun m=>(l4 (m.getD len) hi).bind fun h=>bif m.isSome&&h.isNone then none else(l4 (h.getD len) lo).bind fun l=>
   let ea:=l.getD 0;let dS:=h.getD len
   match m with
   |some fN=>bif Nat.ble ea dS&&Nat.ble dS fN then some (.s id (bif Nat.beq fN ea then b*sz else b*sz+ea*sz) (dS- ea) (fN- ea)) else none
   |none=>bif Nat.beq ea 0 then some (.aP id z b dS) else bif Nat.blt ea len&&Nat.ble ea dS then some (.aP id z (b+ea) (dS- ea)) else bif Nat.beq ea len&&Nat.beq dS len then some (.oF id z b (b+ea)) else none
  else none
 |_=>none
def aac(σ:Mem)(E sz id len n:Nat)(ys:List ai):Option (ai×Mem):=match σ.h.get id with
 |some (.row pI z m cs)=>bif Nat.beq pI E&&Nat.beq z sz&&Nat.beq m len then some (.aP σ.n sz 0 (len+n),(σ.kill id).new (.row E sz (len+n) (cs++ys))) else
   bif Nat.beq pI E&&Nat.beq z sz&&Nat.ble len m then(takeN (len*sz) cs).map fun xs=>(.aP σ.n sz 0 (len+n),(σ.kill id).new (.row E sz (len+n) (xs++ys))) else none
 |_=>none
def WA(σ:Mem)(E sz:Nat)(x y:ai):Option (ai×Mem):=(pQ σ sz y).bind fun ys=>(tb y).bind fun n=>bif !ni ys then none else match x with
 |.ck=>bif Nat.beq n 0 then some (.ck,σ) else bif Nat.ble n 1000000 then some (.aP σ.n sz 0 n,σ.new (.row E sz n ys)) else none
 |.s id off len cap=>bif Nat.ble (len+n) cap then(bif Nat.beq n 0 then some (.s id off len cap,σ) else(σ.write id (off+len*sz) ys).map fun bn=>(.s id off (len+n) cap,bn))
   else bif Nat.ble (len+n) 1000000 then(pQ σ sz (.s id off len cap)).bind fun xs=>bif ni xs then some (.aP σ.n sz 0 (len+n),σ.new (.row E sz (len+n) (xs++ys))) else none else none
 |.aP id z lo len=>bif Nat.beq z sz then bif Nat.beq n 0 then some (.aP id z lo len,σ) else bif Nat.beq lo 0&&Nat.ble (len+n) 1000000 then
   (aac σ E sz id len n ys) else none else none
 |_=>none
def TV(σ:Mem)(sz:Nat)(x y:ai):Option (ai×Mem):=(tb x).bind fun eE=>(tb y).bind fun kF=>
 let n:=bif Nat.blt eE kF then eE else kF
 bif Nat.beq n 0 then some (.i .i64 0,σ) else(pQ σ sz y).bind fun ys=>(takeN (n*sz) ys).bind fun ys=>bif !ni ys then none else match x with
  |.s id off _ _=>(σ.write id off ys).map fun bn=>(.i .i64 n,bn)
  |.aP id z lo _=>bif Nat.beq z sz then(σ.write id (lo*sz) ys).map fun bn=>(.i .i64 n,bn) else none
  |_=>none
def oI(k:ai):List (ai×ai×Nat)→Nat→Option (Option (Nat×ai×Nat))
 |[],_=>some none
 |(q,v,t)::r,i=>(Ba k q).bind fun e=>bif e then some (some (i,v,t)) else oI k r (i+1)
def pk(v:ai):List (ai×ai×Nat)→Nat→List (ai×ai×Nat)
 |[],_=>[]
 |(q,_,t)::r,0=>(q,v,t)::r
 |x::r,i+1=>x::pk v r i
def Dw(t:aO):Bool:=match P.underlying t with
 |some (.int _)=>true
 |_=>false
def M4(t:aO):Bool:=match P.underlying t with
 |some (.struct cZ)=>match cZ.toList with
  |[f,g]=>Nat.beq f.offset 0&&Nat.beq g.offset 1&&Dw P f.type&&Dw P g.type
  |_=>false
 |_=>false
def B7(t:aO):Bool:=bif Nat.blt t P.types.size then M4 P t else false
def lW(t:aO):ai→Bool
 |.i _ _=>Dw P t
 |.agg [.i _ _,.i _ _]=>B7 P t
 |_=>false
def Mem.oq(σ:Mem)(id:Nat):Option (List (ai×ai×Nat)×Nat):=match σ.h.get id with
 |some (.map es c)=>some (es,c)
 |_=>none
def abE(fv:aO)(σ:Mem)(x k v:ai):Option Mem:=match x with
 |.m id=>(σ.oq id).bind fun(es,c)=>bif lW P fv k then(oI k es 0).map fun r=>match r with
  |some (i,_,_)=>σ.set id (.map (pk v es i) c)
  |none=>σ.set id (.map (es++[(k,v,c)]) (c+1)) else none
 |_=>none
def mapList(σ:Mem):ai→Option (List (ai×ai×Nat))
 |.nT=>some []
 |.m id=>(σ.oq id).map fun(es,_)=>es
 |_=>none
def aeM(fv:aO)(σ:Mem)(zero x k:ai)(ok:Bool):Option ai:=
 (mapList σ x).bind fun es=>bif lW P fv k then(oI k es 0).map fun r=>
  match r with
  |some (_,v,_)=>bif ok then .fi [v,.b true] else v
  |none=>bif ok then .fi [zero,.b false] else zero else none
def Rx(fv:aO)(σ:Mem)(x k:ai):Option Mem:=match x with
 |.nT=>bif lW P fv k then some σ else none
 |.m id=>(σ.oq id).bind fun(es,c)=>bif lW P fv k then(oI k es 0).map fun r=>match r with
  |some (i,_,_)=>σ.set id (.map (es.eraseIdx i) c)
  |none=>σ else none
 |_=>none
def TA(fv:aO)(σ:Mem)(zero x k:ai):Option (ai×Mem):=match x with
 |.m id=>(σ.oq id).bind fun(es,c)=>bif lW P fv k then(oI k es 0).map fun r=>match r with
  |some (_,v,t)=>(.fi [v,.i .i64 t],σ)
  |none=>(.fi [zero,.i .i64 c],σ.set id (.map (es++[(k,zero,c)]) (c+1))) else none
 |_=>none
def H4(t:Int)(v:ai):List (ai×ai×Nat)→Option (List (ai×ai×Nat))
 |[]=>none
 |(q,u,b)::r=>if(b:Int)=t then some ((q,v,b)::r) else(H4 t v r).map ((q,u,b):: ·)
def aby(σ:Mem)(x t v:ai):Option Mem:=match x,t with
 |.m id,.i _ b=>(σ.oq id).bind fun(es,c)=>(H4 b v es).map fun l0=>σ.set id (.map l0 c)
 |_,_=>none
def qR(l:ae)(t:Nat):Bool:=match l with
 |[]=>false
 |x::r=>bif Nat.beq x t then true else qR r t
def CY(σ:Mem)(it m since:Nat)(seen:ae)(c:Nat):List (ai×ai×Nat)→List (ai×Mem)
 |[]=>[]
 |(k,v,b)::r=>(.fi [.b true,k,v],σ.set it (.iter (some m) since (seen++[b]) c))::CY σ it m since seen c r
def G7(σ:Mem):ai→Option (List (ai×Mem))
 |.p it 0=>match σ.h.get it with
  |some (.iter none _ _ _)=>some [(.fi [.b false],σ)]
  |some (.iter (some m) since seen last)=>(σ.oq m).bind fun(es,c)=>
   bif Nat.ble since last&&es.all (fun e=>Nat.blt e.2.2 since) then
    let left:=es.filter fun e=> !qR seen e.2.2
    some (bif left.isEmpty then[(.fi [.b false],σ)] else CY σ it m since seen c left)
   else none
  |_=>none
 |_=>none
def aam(σ:Mem):ai→Option (ai×Mem)
 |.nT=>some (.p σ.n 0,σ.new (.iter none 0 [] 0))
 |.m id=>(σ.oq id).map fun(_,c)=>(.p σ.n 0,σ.new (.iter (some id) c [] c))
 |_=>none
def Ik(t:Nat):List (ai×ai×Nat)→Option (ai×ai)
 |[]=>none
 |(k,v,b)::r=>bif Nat.beq b t then some (k,v) else Ik t r
def YY(σ:Mem):ai→Option ai
 |.p it 0=>match σ.h.get it with
  |some (.iter (some m) _ seen last)=>(σ.oq m).bind fun(es,c)=>bif Nat.beq c last then(seen.getLast?).bind fun t=>(Ik t es).map fun(k,v)=>.fi [k,v] else none
  |_=>none
 |_=>none
def LK(k:cg)(a b:Int):Option ai:=bif b==0 then none else some (.i k (k.wrap (a.tdiv b)))
def Qu(k:cg)(a b:Int):Option ai:=bif b==0 then none else some (.i k (a.tmod b))
def ZQ(k:cg)(a:Int):Int→Option ai
 |.ofNat b=>some (.i k (k.wrap (a*2^(min b k.bits))))
 |_=>none
def UI(k:cg)(a:Int):Int→Option ai
 |.ofNat b=>some (.i k (a.fdiv (2^(min b k.bits))))
 |_=>none
def ajc(k:cg)(a b:Int):Option ai:=some (.i k (k.wrap (a+b)))
def aeD(k:cg)(a b:Int):Option ai:=some (.i k (k.wrap (a- b)))
def ajZ(k:cg)(a b:Int):Option ai:=some (.i k (k.wrap (a*b)))
def arG(k:cg)(a b:Int):Option ai:=some (.i k (gX .and k a b))
def age(k:cg)(a b:Int):Option ai:=some (.i k (gX .or k a b))
def arL(k:cg)(a b:Int):Option ai:=some (.i k (gX .xor k a b))
def an3(k:cg)(a b:Int):Option ai:=some (.i k (gX .andNot k a b))
def ai8(_:cg)(a b:Int):Option ai:=some (.b (decide (a=b)))
def ar6(_:cg)(a b:Int):Option ai:=some (.b (!decide (a=b)))
def agF(_:cg)(a b:Int):Option ai:=some (.b (decide (a<b)))
def ah7(_:cg)(a b:Int):Option ai:=some (.b (decide (a≤b)))
def apU(_:cg)(a b:Int):Option ai:=some (.b (decide (b<a)))
def afM(_:cg)(a b:Int):Option ai:=some (.b (decide (b≤a)))
def Om:BinOp→cg→Int→Int→Option ai:=@BinOp.rec (fun _=>cg→Int→Int→Option ai) ajc aeD ajZ LK Qu arG age arL ZQ UI an3 ai8 ar6 agF ah7 apU afM
def Hz:BinOp→Bool:=@BinOp.rec (fun _=>Bool) false false false false false false false false true true false false false false false false false
def sameKind(k cb:cg):Bool:=Nat.beq k.ctorIdx cb.ctorIdx
def KM(op:BinOp)(k:cg)(a:Int)(cb:cg)(b:Int):Option ai:=bif Hz op||sameKind k cb then Om op k a b else none
def Ud(P:a8)(c:Bool)(t:aO)(op:BinOp)(x y:ai):Option ai:=match op with
 |.eql=>(y4 P c t x y).map .b
 |.neq=>(y4 P c t x y).map fun e=>.b (!e)
 |_=>none
def acM(op:BinOp)(k:cg)(a:Int)(y:ai):Option ai:=match y with
 |.i cb b=>KM op k a cb b
 |_=>none
def Np(P:a8)(c:Bool)(t:aO)(op:BinOp)(x y:ai):Option ai:=match x with
 |.i k a=>acM op k a y
 |x=>Ud P c t op x y
def Pt(op:UnOp)(x:ai):Option ai:=match op,x with
 |.not,.b x=>some (.b (!x))
 |.neg,.i k a=>some (.i k (k.wrap (0- a)))
 |.xor,.i k a=>some (.i k (gX .xor k (if k.signed then-1 else k.max) a))
 |_,_=>none
def tj(place:Nat→Option (Nat×Nat)):List (Nat×ai)→List ai→Option (List ai)
 |[],cs=>some cs
 |(i,v)::r,cs=>match place i with
  |none=>none
  |some (off,sz)=>bif Nat.beq v.cells.length sz then(over cs off v.cells).bind fun dW=>tj place r dW else none
def axf(t:aO)(i:Nat):Option (Nat×Nat):=match P.underlying t with
 |some (.struct cZ)=>match cZ[i]? with
  |some fl=>(ko P fl.type).map fun n=>(fl.offset,n)
  |none=>none
 |some (.array _ e)=>(ko P e).map fun n=>(i*n,n)
 |_=>none
def times(z:List ai):Nat→List ai
 |0=>[]
 |n+1=>z++times z n
def parts(e:bp):List (Nat×bf)→Option (List (Nat×ai))
 |[]=>some []
 |(i,x)::r=>(dt e x).bind fun v=>(parts e r).map ((i,v):: ·)
end
def acS:bf→a8→bp→Option ai:=fun _ _ _=>none
def af8:aO→a8→bp→Option ai:=fun _ _ _=>none
def EI:aO→bf→a8→bp→Option ai:=fun _ _ _ _=>none
def ano:aO→Nat→(Array (Nat×bf))→a8→bp→Option ai:=fun _ _ _ _ _=>none
def Lf:aO→bf→bf→bf→a8→bp→Option ai:=fun _ _ _ _ _ _=>none
def K5:aO→bf→bf→a8→bp→Option ai:=fun _ _ _ _ _=>none
def W7:Nat→a8→bp→Option ai:=fun _ _ _=>none
def aog:aO→(Option bf)→a8→bp→Option ai:=fun _ _ _ _=>none
def ao0:aO→bf→bf→Bool→a8→bp→Option ai:=fun _ _ _ _ _ _=>none
def as8:bf→Bool→a8→bp→Option ai:=fun _ _ _ _=>none
def R9:Call→a8→bp→Option ai:=fun _ _ _=>none
def afZ:bf→bf→a8→bp→Option ai:=fun _ _ _ _=>none
def as6:aO→bf→Bool→a8→bp→Option ai:=fun _ _ _ _ _=>none
def aoj:(Array SelectCase)→Bool→a8→bp→Option ai:=fun _ _ _ _=>none
def K1(x:bf)(_:a8)(e:bp):Option ai:=dt e x
def VS(a b:bf)(e:bp):ai→Option ai
 |.b true=>dt e a
 |.b false=>dt e b
 |_=>none
def Sj(c a b:bf)(_:a8)(e:bp):Option ai:=(dt e c).bind (VS a b e)
def Wn:ai→Option ai
 |.p id o=>some (.p id o)
 |.hY g=>some (.hY g)
 |.fn (.func f) a c=>some (.fn (.func f) a c)
 |.kX t v=>some (.kX t v)
 |_=>none
def TF(x:bf)(_:a8)(e:bp):Option ai:=(dt e x).bind Wn
def WH(op:BinOp)(t:aO)(x y:bf)(_:aO)(P:a8)(e:bp):Option ai:=(dt e x).bind fun a=>(dt e y).bind (Np P (w3 x||w3 y) t op a)
def X6(op:UnOp)(_:aO)(x:bf)(_:a8)(e:bp):Option ai:=(dt e x).bind (Pt op)
def VT(k:cg):ai→Option ai
 |.i _ n=>some (.i k (k.wrap n))
 |_=>none
def abd(s d:aO)(x:bf)(P:a8)(e:bp):Option ai:=(Jv P s).bind fun _=>(Jv P d).bind fun k=>(dt e x).bind (VT k)
def Ae(P:a8)(t:aO):Bool:=match P.underlying t with
 |some (.interface _)=>false
 |some _=>true
 |none=>false
def Rn(t:aO)(x:bf)(P:a8)(e:bp):Option ai:=bif Ae P t then(dt e x).map (.kX t) else none
def YQ(f:Fn)(a c:List ai):Option ai:=match f with
 |.func g=>some (.fn (.func g) a c)
 |_=>none
def UD(f:Fn)(a c:Array bf)(_:a8)(e:bp):Option ai:=(oB e a.toList).bind fun a=>(oB e c.toList).bind (YQ f a)
def Sq(o:Nat×aO):ai→Option ai
 |.p id off=>some (.p id (off+o.1))
 |_=>none
def Ws(t:aO)(x:bf)(f:Nat)(P:a8)(e:bp):Option ai:=(Iz P t f).bind fun o=>(dt e x).bind (Sq o)
def LM(P:a8)(u:aO)(cs:List ai)(off:Nat):Option ai:=(yj P u).bind fun r=>(ko P u).bind fun n=>bif r then(slice? cs off n).map .agg else cs[off]?
def S5(P:a8)(o:Nat×aO):ai→Option ai
 |.agg cs=>LM P o.2 cs o.1
 |_=>none
def aah(t:aO)(x:bf)(f:Nat)(P:a8)(e:bp):Option ai:=(Iz P t f).bind fun o=>(dt e x).bind (S5 P o)
def rowOf(P:a8)(t:aO):Option (eu×aO):=match P.underlying t with
 |some (.array len el)=>some (some len,el)
 |some (.slice el)=>some (none,el)
 |_=>none
def aaS(n len:Nat)(v:ai)(j:Int):Option ai:=match v,j with
 |.p id off,.ofNat q=>bif Nat.blt q len then some (.p id (off+q*n)) else none
 |_,_=>none
def TG(n:Nat)(w:eu)(v:ai):ai→Option ai
 |.i _ j=>match w with
  |some len=>aaS n len v j
  |none=>acA n v j
 |_=>none
def aaE(t:aO)(x y:bf)(P:a8)(e:bp):Option ai:=(rowOf P t).bind fun w=>(ko P w.2).bind fun n=>(dt e x).bind fun v=>(dt e y).bind (TG n w.1 v)
def Zy(P:a8)(t:aO)(v:ai):ai→Option ai
 |.i _ (.ofNat q)=>match v with
  |.agg cs=>(rowOf P t).bind fun w=>match w.1 with
   |some len=>bif Nat.blt q len then(ko P w.2).bind fun n=>LM P w.2 cs (q*n) else none
   |none=>none
  |_=>none
 |_=>none
def aat(t:aO)(x y:bf)(P:a8)(e:bp):Option ai:=(dt e x).bind fun v=>(dt e y).bind (Zy P t v)
def Jr(e:bp):Option bf→Option (Option ai)
 |none=>some none
 |some x=>(dt e x).map some
def V9(el:eu×aO)(n:Nat)(v:ai)(lo hi mx:Option ai):Option ai:=match el.1 with
 |none=>Rc n v lo hi mx
 |some len=>match v,lo,hi,mx with
  |.p id off,none,none,none=>some (.s id off len len)
  |_,_,_,_=>none
def Un(t:aO)(x:bf)(lo hi mx:Option bf)(P:a8)(e:bp):Option ai:=(rowOf P t).bind fun w=>(ko P w.2).bind fun n=>(dt e x).bind fun v=>(Jr e lo).bind fun lo=>(Jr e hi).bind fun hi=>(Jr e mx).bind (V9 w n v lo hi)
def Zi(j:Nat):ai→Option ai
 |.fi vs=>vs[j]?
 |_=>none
def U1(x:bf)(j:Nat)(_:a8)(e:bp):Option ai:=(dt e x).bind (Zi j)
def W3(P:a8)(a:aO)(ok:Bool):ai→Option ai
 |.kX t v=>bif Ae P a then bif Nat.beq t a then some (bif ok then .fi [v,.b true] else v) else bif ok then(r3 P a).map fun z=>.fi [z,.b false] else none else none
 |_=>none
def Xh(x:bf)(_ a:aO)(ok:Bool)(P:a8)(e:bp):Option ai:=(dt e x).bind (W3 P a ok)
def T8(P:a8)(t:aO):Option (Nat→Option (Nat×Nat)):=match P.underlying t with
 |some (.struct cZ)=>(cZ.toList.mapM (fun f=>(P.info? f.type).map fun i=>(f.offset,i.size))).map fun pl i=>pl.toArray[i]?
 |some (.array _ el)=>(P.info? el).map fun i j=>some (j*i.size,i.size)
 |_=>none
def Wf(t:aO)(ps:Array (Nat×bf))(P:a8)(e:bp):Option ai:=(T8 P t).bind fun pl=>(parts e ps.toList).bind fun l=>(r3 P t).bind fun z=>(tj pl l z.cells).map .agg
def aeW(v:ai):Option ai:=(tb v).map fun(n:Nat)=>ai.i .i64 (n:Int)
def zI(dz:List bf)(eD:List aO)(P:a8)(e:bp):Option ai:=match dz,eD with
 |[x],[t]=>(va P t).bind fun _=>(dt e x).bind aeW
 |_,_=>none
def s4:ai→Option ai
 |.s _ _ _ c=>some (.i .i64 c)
 |.ck=>some (.i .i64 0)
 |_=>none
def Lb(dz:List bf)(eD:List aO)(P:a8)(e:bp):Option ai:=match dz,eD with
 |[x],[t]=>(va P t).bind fun _=>(dt e x).bind s4
 |_,_=>none
def Xq(x y:ai):Option ai:=match x,y with
 |.i k a,.i _ b=>some (.i k (if b<a then b else a))
 |_,_=>none
def W1(x y:ai):Option ai:=match x,y with
 |.i k a,.i _ b=>some (.i k (if b>a then b else a))
 |_,_=>none
def MQ(dz:List bf)(_:List aO)(_:a8)(e:bp):Option ai:=match dz with
 |[x,y]=>(dt e x).bind fun a=>(dt e y).bind (Xq a)
 |_=>none
def Pc(dz:List bf)(_:List aO)(_:a8)(e:bp):Option ai:=match dz with
 |[x,y]=>(dt e x).bind fun a=>(dt e y).bind (W1 a)
 |_=>none
def kr(_:List bf)(_:List aO)(_:a8)(_:bp):Option ai:=none
def aol:Builtin→List bf→List aO→a8→bp→Option ai:=@Builtin.rec (fun _=>List bf→List aO→a8→bp→Option ai) kr Lb kr kr kr kr kr kr zI kr Pc MQ kr kr kr kr kr kr kr kr kr kr kr kr kr kr
def Py(c:Call)(P:a8)(e:bp):Option ai:=match c.callee with
 |.builtin b=>aol b c.args.toList c.argTypes.toList P e
 |_=>none
def He:Op→a8→bp→Option ai:=@Op.rec (fun _=>a8→bp→Option ai) K1 K1 Sj af8 EI Wf ano Lf EI K5 W7 W7 TF WH X6 abd EI Rn UD aog EI K5 Un Ws aah aaE aat ao0 Lf K5 Lf EI as8 acS Xh U1 Py R9 R9 acS afZ as6 aoj
def Ij:bf→a8→(Nat→Option ai)→bp→Mem→Option (ai×Mem):=fun _ _ _ _ _=>none
def apr:bf→bf→bf→a8→(Nat→Option ai)→bp→Mem→Option (ai×Mem):=fun _ _ _ _ _ _ _=>none
def OH:aO→bf→a8→(Nat→Option ai)→bp→Mem→Option (ai×Mem):=fun _ _ _ _ _ _=>none
def amg:aO→(Array (Nat×bf))→a8→(Nat→Option ai)→bp→Mem→Option (ai×Mem):=fun _ _ _ _ _ _=>none
def VW:aO→bf→bf→a8→(Nat→Option ai)→bp→Mem→Option (ai×Mem):=fun _ _ _ _ _ _ _=>none
def VK:Nat→a8→(Nat→Option ai)→bp→Mem→Option (ai×Mem):=fun _ _ _ _ _=>none
def auK:BinOp→aO→bf→bf→aO→a8→(Nat→Option ai)→bp→Mem→Option (ai×Mem):=fun _ _ _ _ _ _ _ _ _=>none
def ail:UnOp→aO→bf→a8→(Nat→Option ai)→bp→Mem→Option (ai×Mem):=fun _ _ _ _ _ _ _=>none
def aqF:aO→aO→bf→a8→(Nat→Option ai)→bp→Mem→Option (ai×Mem):=fun _ _ _ _ _ _ _=>none
def ae4:Fn→(Array bf)→(Array bf)→a8→(Nat→Option ai)→bp→Mem→Option (ai×Mem):=fun _ _ _ _ _ _ _=>none
def aul:aO→bf→(Option bf)→(Option bf)→(Option bf)→a8→(Nat→Option ai)→bp→Mem→Option (ai×Mem):=fun _ _ _ _ _ _ _ _ _=>none
def W6:aO→bf→Nat→a8→(Nat→Option ai)→bp→Mem→Option (ai×Mem):=fun _ _ _ _ _ _ _=>none
def auQ:bf→Bool→a8→(Nat→Option ai)→bp→Mem→Option (ai×Mem):=fun _ _ _ _ _ _=>none
def atd:bf→aO→aO→Bool→a8→(Nat→Option ai)→bp→Mem→Option (ai×Mem):=fun _ _ _ _ _ _ _ _=>none
def aqR:bf→Nat→a8→(Nat→Option ai)→bp→Mem→Option (ai×Mem):=fun _ _ _ _ _ _=>none
def Wj:Call→a8→(Nat→Option ai)→bp→Mem→Option (ai×Mem):=fun _ _ _ _ _=>none
def aop:bf→bf→a8→(Nat→Option ai)→bp→Mem→Option (ai×Mem):=fun _ _ _ _ _ _=>none
def as7:aO→bf→Bool→a8→(Nat→Option ai)→bp→Mem→Option (ai×Mem):=fun _ _ _ _ _ _ _=>none
def aeG:(Array SelectCase)→Bool→a8→(Nat→Option ai)→bp→Mem→Option (ai×Mem):=fun _ _ _ _ _ _=>none
def F6(σ:Mem)(o:bQ):ai×Mem:=(.p σ.n 0,σ.new o)
def xf(σ:Mem):ai×Mem:=(.fi [],σ)
def Rk(t:aO)(P:a8)(_:Nat→Option ai)(_:bp)(σ:Mem):Option (ai×Mem):=(r3 P t).map fun z=>F6 σ (.cells t z.cells)
def Kx(t:aO)(x:bf)(_:a8)(_:Nat→Option ai)(e:bp)(σ:Mem):Option (ai×Mem):=(dt e x).map fun v=>F6 σ (.cells t v.cells)
def Mj(t:aO)(len:Nat)(ps:Array (Nat×bf))(P:a8)(_:Nat→Option ai)(e:bp)(σ:Mem):Option (ai×Mem):=(va P t).bind fun E=>(ko P E).bind fun n=>(r3 P E).bind fun z=>(parts e ps.toList).bind fun l=>
 bif Nat.ble (len*n) 16777216&&(Nat.beq n z.cells.length&&Nat.blt 0 n)&&(Nat.blt 0 len||l.isEmpty) then(tj (fun i=>some (i*n,n)) l (times z.cells len)).map fun cs=>(.s σ.n 0 len len,σ.new (.cells E cs)) else none
def Z1(t:aO)(x:bf)(P:a8)(G:Nat→Option ai)(e:bp)(σ:Mem):Option (ai×Mem):=(dt e x).bind fun a=>(sn P G σ t a).map fun v=>(v,σ)
def YW(t:aO)(x y:bf)(P:a8)(_:Nat→Option ai)(e:bp)(σ:Mem):Option (ai×Mem):=(dt e x).bind fun a=>(dt e y).bind fun v=>(YU P σ t a v).map xf
def We(E n by_:Nat)(z:ai)(σ:Mem)(l c:ai):Option (ai×Mem):=match l,c with
 |.i _ (.ofNat l),.i _ (.ofNat c)=>bif (Nat.ble l c&&Nat.ble c 1000000)&&(Nat.ble by_ 1000&&(Nat.beq n z.cells.length&&Nat.blt 0 n)) then some (.s σ.n 0 l c,σ.new (.cells E (times z.cells c))) else none
 |_,_=>none
def NZ(t:aO)(x y:bf)(P:a8)(_:Nat→Option ai)(e:bp)(σ:Mem):Option (ai×Mem):=(va P t).bind fun E=>(ko P E).bind fun n=>(JU P E).bind fun by_=>(r3 P E).bind fun z=>(dt e x).bind fun l=>(dt e y).bind (We E n by_ z σ l)
def Hd(_:aO)(x:Option bf)(_:a8)(_:Nat→Option ai)(_:bp)(σ:Mem):Option (ai×Mem):=match x with
 |none=>some (.m σ.n,σ.new (.map [] 0))
 |some _=>none
def z7(P:a8)(t:aO):Option (aO×aO):=match P.underlying t with
 |some (.map k el)=>some (k,el)
 |_=>none
def L0(t:aO)(m k v:bf)(P:a8)(_:Nat→Option ai)(e:bp)(σ:Mem):Option (ai×Mem):=(z7 P t).bind fun uu=>(dt e m).bind fun m=>(dt e k).bind fun k=>(dt e v).bind fun v=>(abE P uu.1 σ m k v).map xf
def F2(P:a8)(t:aO):Option aO:=match P.underlying t with
 |some (.map _ el)=>some el
 |_=>none
def V4(t:aO)(m k:bf)(ok:Bool)(P:a8)(_:Nat→Option ai)(e:bp)(σ:Mem):Option (ai×Mem):=(z7 P t).bind fun uu=>(r3 P uu.2).bind fun z=>(dt e m).bind fun m=>(dt e k).bind fun k=>(aeM P uu.1 σ z m k ok).map fun v=>(v,σ)
def Vi(t:aO)(m k:bf)(P:a8)(_:Nat→Option ai)(e:bp)(σ:Mem):Option (ai×Mem):=(z7 P t).bind fun uu=>(r3 P uu.2).bind fun z=>(dt e m).bind fun m=>(dt e k).bind fun k=>TA P uu.1 σ z m k
def SC(_:aO)(m t v:bf)(_:a8)(_:Nat→Option ai)(e:bp)(σ:Mem):Option (ai×Mem):=(dt e m).bind fun m=>(dt e t).bind fun t=>(dt e v).bind fun v=>(aby σ m t v).map xf
def Wc(t:aO)(x:bf)(P:a8)(_:Nat→Option ai)(e:bp)(σ:Mem):Option (ai×Mem):=(F2 P t).bind fun _=>(dt e x).bind (aam σ)
def aaL(x:bf)(_:a8)(_:Nat→Option ai)(e:bp)(σ:Mem):Option (ai×Mem):=(dt e x).bind fun v=>(YY σ v).map fun u=>(u,σ)
def ks(_:List bf)(_:List aO)(_:a8)(_:bp)(_:Mem):Option (ai×Mem):=none
def Bo(P:a8)(E:aO):eu:=(ko P E).bind fun n=>(JU P E).bind fun by_=>(r3 P E).bind fun z=>bif Nat.ble by_ 1000&&(Nat.beq n z.cells.length&&Nat.blt 0 n) then some n else none
def Rf(dz:List bf)(eD:List aO)(P:a8)(e:bp)(σ:Mem):Option (ai×Mem):=match dz,eD with
 |[x,y],[t,jD]=>(va P jD).bind fun _=>(va P t).bind fun E=>(Bo P E).bind fun n=>(dt e x).bind fun a=>(dt e y).bind fun b=>WA σ E n a b
 |_,_=>none
def Lw(dz:List bf)(eD:List aO)(P:a8)(e:bp)(σ:Mem):Option (ai×Mem):=match dz,eD with
 |[x,y],[t,_]=>(va P t).bind fun E=>(ko P E).bind fun n=>(dt e x).bind fun a=>(dt e y).bind fun b=>TV σ n a b
 |_,_=>none
def Qe(dz:List bf)(eD:List aO)(P:a8)(e:bp)(σ:Mem):Option (ai×Mem):=match dz,eD with
 |[x,y],[t,_]=>(z7 P t).bind fun uu=>(dt e x).bind fun a=>(dt e y).bind fun b=>(Rx P uu.1 σ a b).map xf
 |_,_=>none
def R3(σ:Mem):ai→Option (ai×Mem)
 |.m id=>(σ.oq id).map fun es=>(.i .i64 es.1.length,σ)
 |.nT=>some (.i .i64 0,σ)
 |_=>none
def Qk(dz:List bf)(eD:List aO)(P:a8)(e:bp)(σ:Mem):Option (ai×Mem):=match dz,eD with
 |[x],[t]=>(F2 P t).bind fun _=>(dt e x).bind (R3 σ)
 |_,_=>none
def amt:Builtin→List bf→List aO→a8→bp→Mem→Option (ai×Mem):=@Builtin.rec (fun _=>List bf→List aO→a8→bp→Mem→Option (ai×Mem)) Rf ks ks ks ks Lw Qe ks Qk ks ks ks ks ks ks ks ks ks ks ks ks ks ks ks ks ks
def Ki(c:Call)(P:a8)(_:Nat→Option ai)(e:bp)(σ:Mem):Option (ai×Mem):=match c.callee with
 |.builtin b=>amt b c.args.toList c.argTypes.toList P e σ
 |_=>none
def Aw:Op→a8→(Nat→Option ai)→bp→Mem→Option (ai×Mem):=@Op.rec (fun _=>a8→(Nat→Option ai)→bp→Mem→Option (ai×Mem)) Ij Ij apr Rk Kx amg Mj L0 Z1 YW VK VK Ij auK ail aqF OH OH ae4 Hd OH NZ aul W6 W6 VW VW V4 L0 Vi SC Wc auQ aaL atd aqR Ki Wj Wj Ij aop as7 aeG
def IX(g:Fn)(a c vs:List ai):Option (Fn×List ai):=match g with
 |.func f=>some (.func f,a++vs++c)
 |.yield l=>match c with
  |[]=>some (.yield l,a++vs)
  |_=>none
 |_=>none
def Im(P:a8)(t:aO)(name:String):Option (dn×Bool):=match P.info? t with
 |some i=>match i.methods.find? (fun m=>m.name==name) with
  |some m=>match m.path.toList with
   |[]=>m.func
   |_=>none
  |none=>none
 |none=>none
def JG(P:a8)(G:Nat→Option ai)(σ:Mem)(t:aO)(v:ai):Bool→Option ai
 |true=>match P.underlying t with
  |some (.pointer _)=>some v
  |_=>none
 |false=>match P.underlying t with
  |some (.pointer el)=>sn P G σ el v
  |_=>none
def aj0(P:a8)(G:Nat→Option ai)(e:bp)(σ:Mem)(t:aO)(v:ai)(dz:List bf)(m:dn×Bool):Option (Fn×List ai):=(JG P G σ t v m.2).bind fun r=>(oB e dz).map fun vs=>(.func m.1,r::vs)
def Qb(P:a8)(G:Nat→Option ai)(e:bp)(σ:Mem):Op→Option (Fn×List ai)
 |.call ⟨.value f,dz,_⟩=>match dt e f with
  |some (.fn g a c)=>(oB e dz.toList).bind (IX g a c)
  |_=>none
 |.call ⟨.invoke r name,dz,_⟩=>match dt e r with
  |some (.kX t v)=>(Im P t name).bind (aj0 P G e σ t v dz.toList)
  |_=>none
 |_=>none
abbrev cL(β:Type):=Option (List β)
def cL.then{β wR:Type}(f:β→cL wR):List β→cL wR
 |[]=>some []
 |x::r=>match r with
  |[]=>f x
  |_=>(f x).bind fun a=>(cL.then f r).map (a++ ·)
def cL.bind{β wR:Type}(o:cL β)(f:β→cL wR):cL wR:=match o with
 |none=>none
 |some l=>cL.then f l
inductive ld where
 |done
 |look (i:Nat) (p:ld)
 |act (i:Nat) (c:ae) (p:ld)
abbrev h1:=Fn→List ai→Mem→cL (ai×Mem)
structure ev where
 P:a8
 G:Nat→Option ai
 yw:dn→Nat→Option ld
 z1:dn→Option (List ai→Mem→cL (ai×Mem))
 aa7:dn→Bool
 N:Nat
def Fp:bf→bp→Mem→Option (cL (ai×Mem)):=fun _ _ _=>none
def atg:bf→bf→bf→bp→Mem→Option (cL (ai×Mem)):=fun _ _ _ _ _=>none
def agt:aO→bp→Mem→Option (cL (ai×Mem)):=fun _ _ _=>none
def Bp:aO→bf→bp→Mem→Option (cL (ai×Mem)):=fun _ _ _ _=>none
def apj:aO→(Array (Nat×bf))→bp→Mem→Option (cL (ai×Mem)):=fun _ _ _ _=>none
def alz:aO→Nat→(Array (Nat×bf))→bp→Mem→Option (cL (ai×Mem)):=fun _ _ _ _ _=>none
def Qn:aO→bf→bf→bf→bp→Mem→Option (cL (ai×Mem)):=fun _ _ _ _ _ _=>none
def CX:aO→bf→bf→bp→Mem→Option (cL (ai×Mem)):=fun _ _ _ _ _=>none
def Ur:Nat→bp→Mem→Option (cL (ai×Mem)):=fun _ _ _=>none
def aeQ:BinOp→aO→bf→bf→aO→bp→Mem→Option (cL (ai×Mem)):=fun _ _ _ _ _ _ _=>none
def asP:UnOp→aO→bf→bp→Mem→Option (cL (ai×Mem)):=fun _ _ _ _ _=>none
def aeY:aO→aO→bf→bp→Mem→Option (cL (ai×Mem)):=fun _ _ _ _ _=>none
def aq9:Fn→(Array bf)→(Array bf)→bp→Mem→Option (cL (ai×Mem)):=fun _ _ _ _ _=>none
def agK:aO→(Option bf)→bp→Mem→Option (cL (ai×Mem)):=fun _ _ _ _=>none
def apo:aO→bf→(Option bf)→(Option bf)→(Option bf)→bp→Mem→Option (cL (ai×Mem)):=fun _ _ _ _ _ _ _=>none
def VH:aO→bf→Nat→bp→Mem→Option (cL (ai×Mem)):=fun _ _ _ _ _=>none
def agB:aO→bf→bf→Bool→bp→Mem→Option (cL (ai×Mem)):=fun _ _ _ _ _ _=>none
def ape:bf→aO→aO→Bool→bp→Mem→Option (cL (ai×Mem)):=fun _ _ _ _ _ _=>none
def auy:bf→Nat→bp→Mem→Option (cL (ai×Mem)):=fun _ _ _ _=>none
def M1:Call→bp→Mem→Option (cL (ai×Mem)):=fun _ _ _=>none
def arp:bf→bf→bp→Mem→Option (cL (ai×Mem)):=fun _ _ _ _=>none
def adC:aO→bf→Bool→bp→Mem→Option (cL (ai×Mem)):=fun _ _ _ _ _=>none
def aqX:(Array SelectCase)→Bool→bp→Mem→Option (cL (ai×Mem)):=fun _ _ _ _=>none
def adZ(x:bf)(b:Bool)(e:bp)(σ:Mem):Option (cL (ai×Mem)):=match b with
 |false=>some ((dt e x).bind (G7 σ))
 |true=>none
def abL:Op→bp→Mem→Option (cL (ai×Mem)):=@Op.rec (fun _=>bp→Mem→Option (cL (ai×Mem))) Fp Fp atg agt Bp apj alz Qn Bp CX Ur Ur Fp aeQ asP aeY Bp Bp aq9 agK Bp CX apo VH VH CX CX agB Qn CX Qn Bp adZ Fp ape auy M1 M1 M1 Fp arp adC aqX
def aoI(e:bp)(σ:Mem)(op:Op):Option (cL (ai×Mem)):=abL op e σ
def ang(call:h1)(σ:Mem)(f:Fn×List ai):cL (ai×Mem):=call f.1 f.2 σ
def acy(X:ev)(call:h1)(e:bp)(σ:Mem)(op:Op):cL (ai×Mem):=(Qb X.P X.G e σ op).bind (ang call σ)
def Q1(X:ev)(call:h1)(e:bp)(σ:Mem)(op:Op):cL (ai×Mem):=match Aw op X.P X.G e σ with
 |some r=>some [r]
 |none=>match aoI e σ op with
  |some r=>r
  |none=>acy X call e σ op
def DF(X:ev)(call:h1)(e:bp)(σ:Mem)(op:Op):cL (ai×Mem):=match He op X.P e with
 |some v=>some [(v,σ)]
 |none=>Q1 X call e σ op
def sq(e:bp):eu→ai→bp
 |some d,v=>e.put d v
 |none,_=>e
def Ld(e:bp)(ops:Array Oper)(j:Nat):Option (Option Bool):=match ops[j]? with
 |some o=>match o.dst with
  |some d=>match e.get d with
   |some (.b x)=>some (some x)
   |some (.fi [])=>some none
   |_=>none
  |none=>none
 |none=>none
def alI(w:Bool):Option Bool→Bool
 |some x=>x==w
 |none=>false
def zx(e:bp)(ops:Array Oper):Option (Nat×Bool)→Option Bool
 |none=>some true
 |some (j,w)=>(Ld e ops j).map (alI w)
mutual
def ai.eqv:ai→ai→Bool
 |.b x,.b y=>x==y
 |.i k a,.i cb c=>decide (k=cb)&&decide (a=c)
 |.p a o,.p c q=>Nat.beq a c&&Nat.beq o q
 |.qK,.qK=>true
 |.hY a,.hY c=>Nat.beq a c
 |.tv a,.tv c=>Nat.beq a c
 |.s a o l c,.s bN kO ea dp=>Nat.beq a bN&&Nat.beq o kO&&Nat.beq l ea&&Nat.beq c dp
 |.oF a o l c,.oF bN kO ea dp=>Nat.beq a bN&&Nat.beq o kO&&Nat.beq l ea&&Nat.beq c dp
 |.aP a o l c,.aP bN kO ea dp=>Nat.beq a bN&&Nat.beq o kO&&Nat.beq l ea&&Nat.beq c dp
 |.ck,.ck=>true
 |.m a,.m c=>Nat.beq a c
 |.nT,.nT=>true
 |.fn f a c,.fn hB bN dp=>decide (f=hB)&&kP a bN&&kP c dp
 |.rC,.rC=>true
 |.kX t v,.kX u w=>Nat.beq t u&&v.eqv w
 |.j0,.j0=>true
 |.agg a,.agg c=>kP a c
 |.fi a,.fi c=>kP a c
 |_,_=>false
def ai.kP:List ai→List ai→Bool
 |[],[]=>true
 |x::r,y::q=>x.eqv y&&kP r q
 |_,_=>false
end
structure Vf where
 op:Nat
 id:Nat
 off:Nat
 cs:List ai
abbrev lx:=List Vf
def zU(σ:Mem):lx→Bool
 |[]=>true
 |q::r=>match σ.read q.id q.off q.cs.length with
  |some aX=>ai.kP q.cs aX&&zU σ r
  |none=>false
def m6(o:Oper):lx→lx
 |[]=>[]
 |q::r=>bif o.after.any (fun e=>Region.binds .any e&&Nat.beq e.on q.op) then m6 o r else q::m6 o r
def uH(P:a8)(e:bp)(i:Nat)(t:aO)(x:bf)(v:ai):lx→lx:=fun L=>match dt e x with
 |some (.p id off)=>match yj P t with
  |some true=>⟨i,id,off,v.cells⟩::L
  |_=>⟨i,id,off,[v]⟩::L
 |_=>L
def G9:List (ai×ai×Nat)→List (ai×ai×Nat)→Bool
 |[],[]=>true
 |(k,v,t)::r,(cb,a1,jD)::q=>k.eqv cb&&v.eqv a1&&Nat.beq t jD&&G9 r q
 |_,_=>false
def bQ.eqv:bQ→bQ→Bool
 |.cells t a,.cells jD b=>Nat.beq t jD&&ai.kP a b
 |.row t z n a,.row jD aix yv b=>Nat.beq t jD&&Nat.beq z aix&&Nat.beq n yv&&ai.kP a b
 |.map a c,.map b dp=>Nat.beq c dp&&G9 a b
 |.qc,.qc=>true
 |.la a,.la b=>Nat.beq a b
 |.iter (some m) a s l,.iter (some fN) bN mc ea=>Nat.beq m fN&&Nat.beq a bN&&Nat.beq l ea&&s==mc
 |.iter none a s l,.iter none bN mc ea=>Nat.beq a bN&&Nat.beq l ea&&s==mc
 |_,_=>false
def T.eqv:T bQ→T bQ→Bool
 |.leaf,.leaf=>true
 |.node l v r,.node ea a1 oD=>(match v,a1 with
  |none,none=>true
  |some a,some b=>a.eqv b
  |_,_=>false)&&T.eqv l ea&&T.eqv r oD
 |_,_=>false
mutual
def ai.ids:ai→ae
 |.p a _=>[a]
 |.s a _ _ _=>[a]
 |.aP a _ _ _=>[a]
 |.oF a _ _ _=>[a]
 |.m a=>[a]
 |.fn _ a c=>FU a++FU c
 |.kX _ v=>v.ids
 |.agg a=>FU a
 |.fi a=>FU a
 |_=>[]
def FU:List ai→ae
 |[]=>[]
 |x::r=>x.ids++FU r
end
def xH(ids:ae):Nat→Nat→Mem→Mem
 |0,_,σ=>σ
 |n+1,i,σ=>xH ids n (i+1) (bif qR ids i then σ else σ.kill i)
def same(a b:ai×Mem):Bool:=a.1.eqv b.1&&Nat.beq a.2.n b.2.n&&T.eqv a.2.h b.2.h
def DM:List (ai×Mem)→List (ai×Mem)
 |[]=>[]
 |x::r=>let q:=DM r;bif q.any (same x) then q else x::q
def yc:List (ai×Mem)→Nat
 |[]=>0
 |x::r=>let m:=yc r;bif Nat.blt m x.2.n then x.2.n else m
def UL(n:Nat)(l:List (ai×Mem)):List (ai×Mem):=let m:=yc l;DM (l.map fun x=>(x.1,{xH x.1.ids (x.2.n- n) n x.2 with n:=m}))
def acP:Op→Option (aO×bf):=@Op.rec (fun _=>Option (aO×bf)) (fun _=>none) (fun _=>none) (fun _ _ _=>none) (fun _=>none) (fun _ _=>none) (fun _ _=>none) (fun _ _ _=>none) (fun _ _ _ _=>none) (fun t x=>some (t,x)) (fun _ _ _=>none) (fun _=>none) (fun _=>none) (fun _=>none) (fun _ _ _ _ _=>none) (fun _ _ _=>none) (fun _ _ _=>none) (fun _ _=>none) (fun _ _=>none) (fun _ _ _=>none) (fun _ _=>none) (fun _ _=>none) (fun _ _ _=>none) (fun _ _ _ _ _=>none) (fun _ _ _=>none) (fun _ _ _=>none) (fun _ _ _=>none) (fun _ _ _=>none) (fun _ _ _ _=>none) (fun _ _ _ _=>none) (fun _ _ _=>none) (fun _ _ _ _=>none) (fun _ _=>none) (fun _ _=>none) (fun _=>none) (fun _ _ _ _=>none) (fun _ _=>none) (fun _=>none) (fun _=>none) (fun _=>none) (fun _=>none) (fun _ _=>none) (fun _ _ _=>none) (fun _ _=>none)
abbrev jV:=ev→h1→Array Oper→lx→bp→Mem→cL (bp×Mem)
def O2(o:Oper)(L:lx)(ih:jV)(X:ev)(call:h1)(ops:Array Oper)(e:bp)(r:ai×Mem):cL (bp×Mem):=bif zU r.2 (m6 o L) then ih X call ops (m6 o L) (sq e o.dst r.1) r.2 else none
def E4(o:Oper)(ih:jV):jV:=fun X call ops L e σ=>match zx e ops o.guard with
 |none=>none
 |some false=>ih X call ops L (sq e o.dst (.fi [])) σ
 |some true=>cL.bind (DF X call e σ o.op) (O2 o L ih X call ops e)
def TI(o:Oper)(i:Nat)(ih:jV):jV:=fun X call ops L e σ=>match acP o.op with
 |some (t,x)=>match(dt e x).bind (sn X.P X.G σ t) with
  |some v=>ih X call ops (uH X.P e i t x v L) (sq e o.dst v) σ
  |none=>none
 |none=>none
def abX(o:Oper)(i:Nat)(ih:jV):jV:=fun X call ops L e σ=>match zx e ops o.guard with
 |none=>none
 |some false=>ih X call ops L (sq e o.dst (.fi [])) σ
 |some true=>match He o.op X.P e with
  |some v=>ih X call ops L (sq e o.dst v) σ
  |none=>TI o i ih X call ops L e σ
def SO:jV:=fun _ _ _ _ e σ=>some [(e,σ)]
def Km(i:Nat)(ih:jV):jV:=fun X call ops L e σ=>match ops[i]? with
 |none=>none
 |some o=>abX o i ih X call ops L e σ
def S8(i:Nat)(ih:jV):jV:=fun X call ops L e σ=>match ops[i]? with
 |none=>none
 |some o=>E4 o ih X call ops L e σ
def Uh(X:ev)(e:bp)(σ:Mem)(o:Oper):Option Bool→Bool
 |none=>false
 |some false=>true
 |some true=>(Aw o.op X.P X.G e σ).isSome
def Dc(X:ev)(ops:Array Oper)(e:bp)(σ:Mem):ae→Bool
 |[]=>true
 |j::r=>match ops[j]? with
  |none=>false
  |some o=>Uh X e σ o (zx e ops o.guard)&&Dc X ops e σ r
def Oy(i:Nat)(c:ae)(_:ld)(ih:jV):jV:=fun X call ops L e σ=>bif Dc X ops e σ c then S8 i ih X call ops L e σ else none
def adA(i:Nat)(_:ld)(ih:jV):jV:=Km i ih
def Cr:ld→jV:=@ld.rec (fun _=>jV) SO adA Oy
def as1(o:Oper)(_:List Oper)(ih:jV):jV:=E4 o ih
def J2:List Oper→jV:=@List.rec Oper (fun _=>jV) SO as1
inductive hs where
 |normal
 |exit (id:Nat)
 |ret
structure Out where
 ex:hs
 e:bp
 aX:ae
 σ:Mem
abbrev ke:=ev→h1→dn→bp→ae→Mem→cL Out
def rQ(aX:ae):List (bp×Mem)→List Out
 |[]=>[]
 |x::r=>⟨.normal,x.1,aX,x.2⟩::rQ aX r
def acu(o:Out)(a b:cL Out):cL Out:=match o.ex with
 |.normal=>a
 |_=>b
def XK(ih:bp→ae→Mem→cL Out)(o:Out):cL Out:=acu o (ih o.e o.aX o.σ) (some [o])
def aqc(body:bp→ae→Mem→cL Out)(_:Nat)(ih:bp→ae→Mem→cL Out)(e:bp)(aX:ae)(σ:Mem):cL Out:=cL.bind (body e aX σ) (XK ih)
def auv(_:bp)(_:ae)(_:Mem):cL Out:=none
def iter(body:bp→ae→Mem→cL Out):Nat→bp→ae→Mem→cL Out:=@Nat.rec (fun _=>bp→ae→Mem→cL Out) auv (aqc body)
def Jo:ke:=fun _ _ _ e aX σ=>some [⟨.normal,e,aX,σ⟩]
def Wv(id:Nat)(ops:Array Oper)(draw:Bool):ke:=fun X call fn e aX σ=>match draw with
 |false=>(J2 ops.toList X call ops [] e σ).map (rQ aX)
 |true=>(X.yw fn id).bind fun p=>(Cr p X call ops [] e σ).map (rQ aX)
def Zc(yx:ke)(X:ev)(call:h1)(fn:dn)(o:Out):cL Out:=acu o (yx X call fn o.e o.aX o.σ) (some [o])
def aiJ(_ _:Code)(uj yx:ke):ke:=fun X call fn e aX σ=>cL.bind (uj X call fn e aX σ) (Zc yx X call fn)
def KY(uj yx:ke)(X:ev)(call:h1)(fn:dn)(e:bp)(aX:ae)(σ:Mem):ai→cL Out
 |.b true=>uj X call fn e aX σ
 |.b false=>yx X call fn e aX σ
 |_=>none
def aow(c:bf)(_ _:Code)(uj yx:ke):ke:=fun X call fn e aX σ=>(dt e c).bind (KY uj yx X call fn e aX σ)
def QB(id:Nat)(o:Out):cL Out:=match o.ex with
 |.exit j=>bif Nat.beq j id then some [⟨.normal,o.e,o.aX,o.σ⟩] else some [o]
 |_=>some [o]
def amj(id:Nat)(_:Code)(uj:ke):ke:=fun X call fn e aX σ=>cL.bind (uj X call fn e aX σ) (QB id)
def anF(_:Code)(uj:ke):ke:=fun X call fn e aX σ=>iter (uj X call fn) X.N e aX σ
def akN(id:Nat):ke:=fun _ _ _ e aX σ=>some [⟨.exit id,e,aX,σ⟩]
def anl:ke:=fun _ _ _ e aX σ=>some [⟨.ret,e,aX,σ⟩]
def ap7(_:Nat):ke:=Jo
def akL(_:Code)(_:ke):ke:=fun _ _ _ _ _ _=>none
def ah4(_:Nat):ke:=fun _ _ _ _ _ _=>none
def ae7(_:String):ke:=fun _ _ _ _ _ _=>none
def Nz(l D:Nat)(e:bp)(aX:ae)(r:ai×Mem):cL Out:=match r.2.h.get l with
 |some (.loop bB yI _ _ _ _ _ _)=>match bB,yI with
  |.busy,_=>none
  |_,none=>some [⟨.normal,e,D::aX,r.2.kill l⟩]
  |_,some (.exit id)=>some [⟨.exit id,e,D::aX,r.2.kill l⟩]
  |_,some .ret=>some [⟨.ret,e,D::aX,r.2.kill l⟩]
  |_,_=>none
 |_=>none
def KZ(f:bf)(ps:Array Tmp)(assign body:Code)(_ _:ke):ke:=fun _ call fn e aX σ=>match dt e f with
 |some (.fn (.func g) a c)=>cL.bind (call (.func g) (a++[.fn (.yield (σ.n+1)) [] []]++c) ((σ.new .qc).new (.loop .ready none fn e ps.toList assign body σ.n))) (Nz (σ.n+1) σ.n e aX)
 |_=>none
def r8:Code→ke:=@Code.rec (fun _=>ke) Jo Wv aiJ aow amj anF KZ akN akL ap7 ah4 anl ae7
def mG:Code→Bool:=@Code.rec (fun _=>Bool) true (fun _ _ _=>true) (fun _ _ a b=>a&&b) (fun _ _ _ a b=>a&&b) (fun _ _ a=>a) (fun _ a=>a) (fun _ _ _ _ _ _=>false) (fun _=>true) (fun _ _=>false) (fun _=>true) (fun _=>false) true (fun _=>false)
def FH:Nat→List ai→bp→bp
 |_,[],e=>e
 |i,v::r,e=>FH (i+1) r (e.put i v)
def Q2:List Tmp→List ai→bp→Option bp
 |[],[],e=>some e
 |t::eD,v::vs,e=>Q2 eD vs (e.put t v)
 |_,_,_=>none
def vJ(P:a8)(G:Nat→Option ai)(e:bp)(σ:Mem):List ResultVar→Option (List ai)
 |[]=>some []
 |.tmp t::r=>(e.get t).bind fun v=>(vJ P G e σ r).map (v:: ·)
 |.cell b t::r=>(e.get b).bind fun a=>(sn P G σ t a).bind fun v=>(vJ P G e σ r).map (v:: ·)
def B4:List ai→ai
 |[v]=>v
 |vs=>.fi vs
def CB:ae→Mem→Option Mem
 |[],σ=>some σ
 |d::r,σ=>match σ.h.get d with
  |some .qc=>CB r (σ.kill d)
  |_=>none
def agS(X:ev)(rs:List ResultVar)(o:Out):cL (ai×Mem):=match o.ex with
 |.exit _=>none
 |_=>(CB o.aX o.σ).bind fun bn=>(vJ X.P X.G o.e bn rs).map fun vs=>[(B4 vs,bn)]
def RY(X:ev)(call:h1)(f:dn)(fn:Func)(args:List ai)(σ:Mem):cL (ai×Mem):=match fn.body with
 |some c=>bif Nat.ble args.length fn.ntmps then(cL.bind (r8 c X call f (FH 0 args .leaf) [] σ) (agS X fn.results.toList)).map fun l=>bif X.aa7 f then UL σ.n l else l else none
 |none=>none
def RW(X:ev)(call:h1)(f:dn)(args:List ai)(σ:Mem):cL (ai×Mem):=match X.z1 f with
 |some b=>b args σ
 |none=>match X.P.funcs[f]? with
  |some fn=>RY X call f fn args σ
  |none=>none
def yz(l:Nat)(σ:Mem)(x:ai)(bB:LoopState)(iE:Option Code):cL (ai×Mem):=match σ.h.get l with
 |some (.loop _ _ fn e ps assign body D)=>some [(x,σ.set l (.loop bB iE fn e ps assign body D))]
 |_=>none
def ab2(l:Nat)(q:Out):cL (ai×Mem):=match q.ex with
 |.normal=>yz l q.σ (.b true) .ready none
 |.exit id=>yz l q.σ (.b false) .done (some (.exit id))
 |.ret=>yz l q.σ (.b false) .done (some .ret)
def Lm(X:ev)(call:h1)(fn:dn)(body:Code)(l:Nat)(o:Out):cL (ai×Mem):=match o.ex with
 |.normal=>match o.aX with
  |[]=>match o.σ.h.get l with
   |some (.loop .ready iE jR Bd u3 uB uc gk)=>cL.bind (r8 body X call fn o.e [] (o.σ.set l (.loop .busy iE jR Bd u3 uB uc gk))) (ab2 l)
   |_=>none
  |_=>none
 |_=>none
def LR(X:ev)(call:h1)(l:Nat)(args:List ai)(σ:Mem):cL (ai×Mem):=match σ.h.get l with
 |some (.loop .ready _ fn e ps assign body _)=>bif mG assign&&mG body then(Q2 ps args e).bind fun bu=>cL.bind (r8 assign X call fn bu [] σ) (Lm X call fn body l) else none
 |_=>none
def KV(X:ev)(call:h1):h1:=fun g args σ=>match g with
 |.func f=>RW X call f args σ
 |.yield l=>LR X call l args σ
 |_=>none
def Ia:h1:=fun _ _ _=>none
def Fi(X:ev):Nat→h1:=@Nat.rec (fun _=>h1) Ia (fun _ ih=>KV X ih)
end
end Go.In
end
section
namespace Go.In
open Go Go.a6
namespace TM
noncomputable def ha:ae→ld:=@List.rec Nat (fun _=>ld) .done (fun x _ ih=>@Nat.rec (fun _=>ld) (.look x ih) (fun j _=>.act (Nat.mod x 100) (@Nat.rec (fun _=>ae) [] (fun k _=>[k]) j) ih) (Nat.div x 100))
noncomputable def e(k:Nat)(l:ae)(x:Nat):Option ld:=@Bool.rec (fun _=>Option ld) none (some (ha l)) (Nat.beq x k)
noncomputable def b(k:Nat)(u v:Nat→Option ld)(x:Nat):Option ld:=@Bool.rec (fun _=>Option ld) (v x) (u x) (Nat.ble (Nat.succ x) k)
end TM
open TM in
noncomputable def au1(f r:Nat):Option ld:=(b 251906 (b 123910 (b 50178 (b 16389 (b 9245 (b 9221 (b 8207 (e 8203 [0,1,2,3,4,5,106,7,8,109]) (e 8207 [0,1,2,3,4,5,6,7,8,9,110,11,12,113])) (b 9238 (e 9221 [0,1,2,3,4,5,6,7,8,9,10]) (e 9238 [0,1,2,3,4,5,6,7,108]))) (b 15366 (b 10258 (e 9245 [0,1,2,3,4,5,6,7,8,9,10,11,12,113]) (e 10258 [0,1,2,3,4,5,6,8,9,10,11,107,112,113])) (b 16385 (e 15366 [0,2,3,101,104,5]) (e 16385 [1,2,100,103,4])))) (b 30723 (b 16395 (b 16390 (e 16389 [0,1,2,3,5,6,7,8,104,9,10]) (e 16390 [0,1,2,3,4,5,6,7,108,109,10,111])) (b 30721 (e 16395 [0,1,2,3,4,5,906,107,108]) (e 30721 [0,1,2,103,4,5,6,7,8,9,10,11,12,13,14,15,16,17,18]))) (b 40964 (b 32773 (e 30723 [0,1,2,3,4,5,6,7,8,9,10,11,12]) (e 32773 [0,1,2,3,4,5,6])) (b 45061 (e 40964 [0,1,2,3,4,6,7,105,8,9,10,11,12]) (b 48130 (e 45061 [0,1,2,3,4,5,106,107,108,9,10,111]) (e 48130 [0,1,2,3,4,5,6,7,8,9,10,111,12,13,14,15,16])))))) (b 89089 (b 75778 (b 50180 (b 50179 (e 50178 [0,1,2,3,4,5,906,107,108]) (e 50179 [0,1,2,3,4,805,106,107])) (b 51206 (e 50180 [0,1,2,3,4,5,6,7,8,11,109,110,12,13,14,15,116]) (e 51206 [0,1,2,3,4,5,6,7,8,9,10,11,12,13,14,115,116,17,18]))) (b 75781 (b 75780 (e 75778 [0,1,2,3,4,105,6]) (e 75780 [0,1,2,3,4,5,1206,7,8,9,110,111,12])) (b 75786 (e 75781 [0,1,2,3,4,5,1206,7,8,9,110,111,12]) (e 75786 [0,1,2,3,4,5,1206,7,8,9,110,111,12])))) (b 90120 (b 89095 (b 89094 (e 89089 [0,1,2,3,4,5,6,7,8,9,10,11,12,13,14,15,16]) (e 89094 [0,1,2,3,4,5,6,7,8,9,10,11,112,13])) (b 90115 (e 89095 [0,1,2,3,4,5,6,7,8,9,10,111,12,13]) (e 90115 [0,1,2,3,4,5,6,7,8,9,10,11,12,13,14,115,16,117,118,19,20,121]))) (b 93190 (b 92166 (e 90120 [0,1,2,3,4,5,6,7,8,9,10,11,12,13,14,15,116,17,18,119]) (e 92166 [0,1,2,3,4,5,6,7,108,9])) (b 93192 (e 93190 [0,1,2,3,4,5,6,107,8,109]) (b 123907 (e 93192 [0,1,2,3,4,105,6,107]) (e 123907 [0,2,3,4,101,5]))))))) (b 173064 (b 159757 (b 132109 (b 125955 (b 124932 (e 123910 [0,1,2,3,4,5,6,7,108,9,10,11,12,13,14,15,16,17]) (e 124932 [0,1,2,3,4,5,6,7,8,9,10,11,112,13,14,115])) (b 130049 (e 125955 [0,1,2,3,4,105,106,7,8,9,10,11]) (e 130049 [0,1,2,3,4,5,6,7,108,109,10]))) (b 132119 (b 132118 (e 132109 [0,1,2,3,4,5,6,7,8,9,110]) (e 132118 [0,1,2,3,4,5,6,7,8,9,10,111,12,13,114,15,16,117])) (b 132120 (e 132119 [0,1,2,3,4,5,6,7,8,9,10,11,12,13,114,15,16,117]) (e 132120 [0,1,2,3,4,5,106])))) (b 172036 (b 163849 (b 161793 (e 159757 [0,1,2,3,4,5,6,7,8,9,10,11,112,13,14,115]) (e 161793 [0,1,2,3,4,5,106,7,8])) (b 167947 (e 163849 [0,1,2,3,104,105,6]) (e 167947 [0,1,3,4,5,6,7,10,102,108,109,11,112,13]))) (b 173058 (b 173057 (e 172036 [0,1,2,3,4,5,6,107,108]) (e 173057 [0,1,2,3,4,105,6])) (b 173062 (e 173058 [0,1,2,3,4,105]) (b 173063 (e 173062 [0,1,2,3,4,105]) (e 173063 [0,1,2,3,4,105])))))) (b 198657 (b 183297 (b 180233 (b 173069 (e 173064 [0,1,2,3,4,105]) (e 173069 [0,1,2,3,4,5,6,107,108])) (b 182273 (e 180233 [0,1,2,3,4,5,1206,7,8,9,110,111,12]) (e 182273 [0,1,2,3,4,5,106,7]))) (b 190478 (b 190475 (e 183297 [0,1,2,5,6,7,8,9,10,11,103,4,112,13]) (e 190475 [0,1,2,3,4,1105,6,7,8,109,110,11])) (b 191489 (e 190478 [0,1,2,3,4,5,6,7,8,9,10,111,112,13,14,115]) (b 196609 (e 191489 [0,1,2,3,4,5,6,7,8,9,10,11,12,13,14,15,16,17,18,19,20,21,122,23,24,125,26]) (e 196609 [0,1,2,3,4,5,6,7,8,9,110]))))) (b 227347 (b 222218 (b 198658 (e 198657 [0,1,2,3,4,5,6,7,108]) (e 198658 [0,1,2,3,4,5,6,7,8,109,10,11,112])) (b 227343 (e 222218 [0,1,2,3,4,5,6,7,8,9,10,11,12,13,114]) (e 227343 [0,1,2,3,4,5,6,7,8,9,10,11,112,13,14]))) (b 238594 (b 236545 (e 227347 [0,2,3,4,305,306,101,107,8]) (e 236545 [0,1,2,3,4,5,6,7,8,9,10,11,12,13,14,15,16,17,18,19,20])) (b 238598 (e 238594 [0,1,2,3,5,804,106,7,108,9]) (b 248836 (e 238598 [0,1,2,3,4,5,6,7,8,9,10,11,12,113,14,115,16,117]) (e 248836 [0,1,2,3,4,105])))))))) (b 338945 (b 278537 (b 263178 (b 256001 (b 254982 (b 254977 (e 251906 [0,1,2,3,4,5,6,8,9,10,11,12,107,113,14,15,116,17,18,119]) (e 254977 [0,1,2,3,4,5,1206,7,8,9,110,111,12])) (b 254984 (e 254982 [0,1,2,3,5,6,7,8,104,9,110,11,112]) (e 254984 [0,1,2,3,4,5,6,7,8,109]))) (b 262151 (b 262149 (e 256001 [1,2,4,5,6,100,103,107,8]) (e 262149 [0,1,2,3,4,105])) (b 263170 (e 262151 [0,1,2,3,4,5,6,7,8,9,110]) (e 263170 [0,1,2,3,4,5,6,7,8,9,10,11,12])))) (b 266241 (b 264206 (b 264204 (e 263178 [0,1,2,3,4,5,106,107,8,9,110]) (e 264204 [0,1,2,3,4,5,6,7,8,9,10,11,12])) (b 265218 (e 264206 [0,1,2,3,4,5,6,7,8,9,10,11,12,13,14]) (e 265218 [0,1,2,3,4,5,6,7,8,9,10,13,111,12]))) (b 268293 (b 268292 (e 266241 [0,2,3,4,5,6,101,7]) (e 268292 [0,1,2,3,4,5,8,9,10,11,106,7,112,13,14,15,16])) (b 270350 (e 268293 [0,1,2,3,5,6,7,8,9,10,11,12,104,13]) (b 270354 (e 270350 [0,1,2,3,4,5,106,7,108]) (e 270354 [0,1,2,4,5,1203,1206,7,8,9,110,111,12])))))) (b 306186 (b 288771 (b 279554 (b 278540 (e 278537 [0,1,2,3,4,5,6,7,8,9,10,11,12,113,14,15,16,17,18,19,20,121,22,23,24,25,26,27,28,29,30,31,32]) (e 278540 [0,1,2,3,4,5,6,7,8,9,10,11,12,13,14,115,116,17,118])) (b 288769 (e 279554 [0,1,2,3]) (e 288769 [0,1,2,3,4,5,6,7,8,9,10,11,12,13,14,15,16,17,18,19,20,21,22,23,24,25,26,27,28,29,30,31,32,33]))) (b 291843 (b 288776 (e 288771 [0,1,2,3,4,105,6,7,8,9,10]) (e 288776 [0,1,2,3,4,5,6,7,8,9,10,11,12,13,14,115,16,117,118,19,120])) (b 293889 (e 291843 [0,1,2,3,4,5,6,7,8,9,10,11,112,13,14,15]) (e 293889 [0,1,2,3,4,5,6,7,8,9,110])))) (b 326660 (b 321537 (b 311304 (e 306186 [0,1,2,3,4,5,6,7,8,9,10,11,12,13,14,15,16,17,18,119,20,21,122]) (e 311304 [0,1,2,3,4,5,6,7,8,9,10,11,112])) (b 323599 (e 321537 [0,1,2,3,4,5,106]) (e 323599 [0,1,2,3,4,5,6,7,8,9,10,11,12,113,14,15,116]))) (b 333825 (b 326663 (e 326660 [0,1,2,3,4,5,6,107,8,9,10,11,12]) (e 326663 [0,1,102,3,104,5])) (b 333828 (e 333825 [0,1,2,3,4,5,106,7,8,9,10,11]) (b 334849 (e 333828 [0,1,2,3,4,5,106,7,8,109,10]) (e 334849 [0,1,2,3,4,5,6,7,8,9,10]))))))) (b 387073 (b 358427 (b 358407 (b 355331 (b 338954 (e 338945 [0,1,2,3,4,5,1206,7,8,9,110,111,12]) (e 338954 [0,1,2,3,4,5,106])) (b 357377 (e 355331 [0,1,2,3,4,5,106]) (e 357377 [0,1,2,3,5,6,7,8,104,109,110,111,12]))) (b 358422 (b 358420 (e 358407 [0,1,2,3,4,5,6,7,8,9,10,11,12,13,14,15,116,17,18,19,20,21,22,23,24,25,26,27,28,29,30,31]) (e 358420 [0,1,2,3,4,5,6,7,8,9,10,11,12,13,14,15,16,17,18,19,20,21,22,23,24,25,26,27,28,29,130,31,32,33,134,35,36,37,138])) (b 358424 (e 358422 [0,1,2,3,4,5,6,7,8,9,10,11,112]) (e 358424 [0,1,2,3,4,5,6,7,8,9,10,11,112])))) (b 359444 (b 359436 (b 359435 (e 358427 [0,1,2,3,4,5,6,7,8,9,10,11,12,13,14,115]) (e 359435 [0,1,2,3,4,5,6,7,8,9,10,111,12,13])) (b 359442 (e 359436 [0,1,2,3,4,5,6,7,108,109,10,11,12,113]) (e 359442 [0,1,3,4,5,6,7,1402,1408,9,10,11,112,113,14]))) (b 360463 (b 360461 (e 359444 [0,1,2,3,4,5,6,7,8,9,10,11,112,113,14,15,16,117]) (e 360461 [0,1,2,3,4,5,6,107,108,9,10,11,112])) (b 369668 (e 360463 [0,1,2,3,4,5,6,107,108,9,10,11,112]) (b 369670 (e 369668 [0,1,2,3,4,5,6,7,8,9,10,11,12,113,14]) (e 369670 [0,1,2,3,4,5,6,7,8,9,10,11,12,13,14,115,16,117])))))) (b 451586 (b 396292 (b 395265 (b 392202 (e 387073 [0,1,2,3,4,5,6,7,8,9,10,11]) (e 392202 [0,1,2,3,4,5,6,7,8,109,10,11,12,13,14])) (b 396289 (e 395265 [0,1,2,3,4,5,6,7,8,9,10,11,12,13,14,15,16]) (e 396289 [0,1,2,103,4,5,6,7,8,9,10,11,12,13,14]))) (b 425995 (b 399361 (e 396292 [0,1,2,3,4,5,106,7,8,9,10]) (e 399361 [0,1,2,3,4,5,7,8,10,11,12,13,15,106,109,114,116,17,118])) (b 425996 (e 425995 [0,1,2,3,4,5,6,7,8,9,10,11,12,13,14,15]) (b 430081 (e 425996 [0,1,2,3,4,5,6,7,8,9,10,11,12,13,14]) (e 430081 [0,1,2,3,4,5,6,7,8,9,10,111,12,13,14]))))) (b 502788 (b 451590 (b 451587 (e 451586 [0,1,2,3,4,5,6,7,8,109,10,111]) (e 451587 [0,1,2,3,4,5,6,7,8,9,10,11,12,13,14,15,18,19,116,17,120,21,22,23,24,25])) (b 477194 (e 451590 [0,1,2,3,4,5,6,7,8,109,10,11,12,13]) (e 477194 [0,1,2,3,4,5,6,7,8,9,110]))) (b 539649 (b 502790 (e 502788 [0,1,2,3,4,5,6,7,8,9,10,11,12,13,114,15,16]) (e 502790 [0,1,2,3,4,5,6,7,8,9,10,11,12,13,14,115,16,117])) (b 540672 (e 539649 [0,1,2,3,4,5,6,7,108,9]) (b 543744 (e 540672 [0,1,2,3,4,5,6,7,8,9,10,11,12,113,14,115]) (e 543744 [0,1,2,3,4,5,106,107,8,109]))))))))) (f*1024+r)
end Go.In
end
section
namespace Go.In
open Go Go.a6
section
variable{α:Type}
theorem T.oO(k:Nat):(T.leaf:T α).get k=none:=rfl
theorem Hq{β:Type}(b:Bool)(x y:β):@Bool.rec (fun _=>β) x y b=bif b then y else x:=by cases b<;>rfl
theorem T.r2(l r:T α)(v:Option α)(k:Nat):(T.node l v r).get k=if k=0 then v else if k%2=1 then l.get (k/ 2) else r.get (k/ 2- 1):=by
 show@Bool.rec (fun _=>Option α) (@Bool.rec (fun _=>Option α) (r.get (Nat.sub (Nat.div k 2) 1)) (l.get (Nat.div k 2)) (Nat.beq (Nat.mod k 2) 1)) v (Nat.beq k 0)=_;have aa:Nat.mod k 2=k%2:=rfl;have ab:Nat.div k 2=k/ 2:=rfl;have an:Nat.sub (k/ 2) 1=k/ 2- 1:=rfl;rw[aa,ab,an,Hq,Hq];by_cases aB:k=0
 ·subst aB;rfl
 ·rw[az aB,iT aB,eO];by_cases aK:k%2=1
  ·rw[aD aK,aK];rfl
  ·rw[az aK,iT aK,eO]
theorem T.ak5(u:Option α)(l r:T α)(v:Option α)(pl ha:Nat→T α)(k:Nat):T.AU u l v r pl ha k=if k=0 then .node l u r else if k%2=1 then .node (pl (k/ 2)) v r else .node l v (ha (k/ 2- 1)):=by
 unfold T.AU;have aa:Nat.mod k 2=k%2:=rfl;have ab:Nat.div k 2=k/ 2:=rfl;have an:Nat.sub (k/ 2) 1=k/ 2- 1:=rfl;rw[aa,ab,an,Hq,Hq];by_cases aB:k=0
 ·subst aB;rfl
 ·rw[az aB,iT aB,eO];by_cases aK:k%2=1
  ·rw[aD aK,aK];rfl
  ·rw[az aK,iT aK,eO]
theorem T.au5(k:Nat):(T.node (.leaf:T α) none .leaf).get k=none:=by
 rw[T.r2];split
 ·rfl
 ·split<;>rfl
theorem T.Y3(u:Option α)(l r:T α)(v:Option α)(pl ha:Nat→T α)(k cb:Nat)(bc:k%2=1→∀j,(pl (k/ 2)).get j=if j=k/ 2 then u else l.get j)(aH:k≠0→k%2≠1→∀j,(ha (k/ 2- 1)).get j=if j=k/ 2- 1 then u else r.get j):
  (T.AU u l v r pl ha k).get cb=if cb=k then u else(T.node l v r).get cb:=by
 rw[T.ak5];by_cases aB:k=0
 ·subst aB;rw[aD rfl,T.r2,T.r2];by_cases aa:cb=0
  ·rw[aD aa,aD aa]
  ·rw[az aa,az aa,az aa]
 ·rw[az aB];by_cases aK:k%2=1
  ·rw[aD aK,T.r2,T.r2,bc aK];by_cases aa:cb=0
   ·rw[aD aa,aD aa,az (by omega)]
   ·rw[az aa,az aa];by_cases bo:cb%2=1
    ·rw[aD bo,aD bo];by_cases cd:cb=k
     ·rw[aD cd,aD (by rw[cd])]
     ·rw[az cd,az (by omega)]
    ·rw[az bo,az bo,az (by omega)]
  ·rw[az aK,T.r2,T.r2,aH aB aK];by_cases aa:cb=0
   ·rw[aD aa,aD aa,az (by omega)]
   ·rw[az aa,az aa];by_cases bo:cb%2=1
    ·rw[aD bo,aD bo,az (by omega)]
    ·rw[az bo,az bo];by_cases cd:cb=k
     ·rw[aD cd,aD (by rw[cd])]
     ·rw[az cd,az (by omega)]
theorem T.PX(u:Option α):∀(f:Nat) (k cb:Nat),k<f→(T.Jq u f k).get cb=if cb=k then u else none
 |0,_,_,h=>absurd h (by omega)
 |f+1,k,cb,h=>by
  show(T.AU u .leaf none .leaf (T.Jq u f) (T.Jq u f) k).get cb=_;rw[T.Y3 u .leaf .leaf none _ _ k cb (fun aa j=>T.PX u f (k/ 2) j (by omega)) (fun aB aa j=>T.PX u f (k/ 2- 1) j (by omega)),T.au5]
theorem T.Jd(u:Option α):∀(t:T α) (k cb:Nat),(T.Ls u t k).get cb=if cb=k then u else t.get cb
 |.leaf,k,cb=>T.PX u (k+1) k cb (by omega)
 |.node l v r,k,cb=>T.Y3 u l r v _ _ k cb (fun _ j=>T.Jd u l _ j) (fun _ _ j=>T.Jd u r _ j)
theorem T.oZ(t:T α)(k cb:Nat)(v:α):(t.put k v).get cb=if cb=k then some v else t.get cb:=T.Jd _ _ _ _
theorem T.wu(t:T α)(k cb:Nat):(t.del k).get cb=if cb=k then none else t.get cb:=T.Jd _ _ _ _
end
structure dB where
 addr:Nat→Addr
 la:Nat→Nat→bi
instance:CoeFun dB (fun _=>Nat→Addr):=⟨dB.addr⟩
instance:Inhabited dB:=⟨⟨fun _=>default,fun _ g=>gQ g (.deferred none)⟩⟩
structure cu where
 b4:Nat→Nat
 gN:Nat→Nat
def ds(n:Nat)(v a1:cu):Prop:=∀i,i<n→a1.b4 i=v.b4 i∧a1.gN i=v.gN i
theorem ds.refl(n:Nat)(v:cu):ds n v v:=fun _ _=>⟨rfl,rfl⟩
theorem ds.trans{n m:Nat}{a b c:cu}(h:ds n a b)(k:ds m b c)(hm:n≤m):ds n a c:=fun i hi=>⟨(k i (by omega)).1.trans (h i hi).1,(k i (by omega)).2.trans (h i hi).2⟩
def xg(v:cu):Fn→Fn
 |.yield l=>.yield (v.b4 l)
 |f=>f
section
variable(e:dB)
mutual
def aT(v:cu):ai→aV
 |.b x=>.bool x
 |.i k n=>.int k n
 |.str s=>.string s
 |.p id off=>.pointer (some ⟨v.b4 id,off,none⟩)
 |.qK=>.pointer none
 |.hY g=>.pointer (some ⟨g,0,none⟩)
 |.tv c=>.pointer (some (e c))
 |.s id off len cap=>.slice (some ⟨v.b4 id,off,none⟩) len cap
 |.aP id sz lo len=>.slice (some ⟨v.b4 id,lo*sz,none⟩) len (v.gN id- lo)
 |.oF id sz b lo=>.slice (some ⟨v.b4 id,(if v.gN id- b=lo- b then b*sz else lo*sz),none⟩) 0 (v.gN id- lo)
 |.ck=>.slice none 0 0
 |.m id=>.map (some (v.b4 id))
 |.nT=>.map none
 |.fn f a c=>.func (xg v f) (bt v a).toArray (bt v c).toArray
 |.rC=>.nilFunc
 |.kX t x=>.iface t (aT v x)
 |.j0=>.nilIface
 |.agg cs=>.agg (bt v cs).toArray
 |.fi vs=>.tuple (bt v vs).toArray
def bt(v:cu):List ai→cw
 |[]=>[]
 |x::r=>aT v x::bt v r
end
end
def Gi(n:Nat):Fn→Bool
 |.yield l=>Nat.blt l n
 |_=>true
mutual
def bM(v:cu)(n:Nat):ai→Bool
 |.p id _=>Nat.blt id n
 |.s id _ _ _=>Nat.blt id n
 |.aP id _ lo len=>Nat.blt id n&&Nat.ble (lo+len) (v.gN id)
 |.oF id _ _ _=>Nat.blt id n
 |.m id=>Nat.blt id n
 |.fn f a c=>Gi n f&&cA v n a&&cA v n c
 |.kX _ x=>bM v n x
 |.agg cs=>cA v n cs
 |.fi vs=>cA v n vs
 |_=>true
def cA(v:cu)(n:Nat):List ai→Bool
 |[]=>true
 |x::r=>bM v n x&&cA v n r
end
theorem ez{a b:Nat}:Nat.blt a b=true↔a<b:=⟨fun h=>Nat.le_of_ble_eq_true h,fun h=>Nat.ble_eq_true_of_le h⟩
section
variable{e:dB}{n:Nat}{v a1:cu}
mutual
theorem xS(h:ds n v a1):∀(x:ai),bM v n x=true→aT e a1 x=aT e v x
 |.b _,_=>rfl
 |.i _ _,_=>rfl
 |.str _,_=>rfl
 |.p id off,ad=>by simp only[aT,(h id (ez.1 ad)).1]
 |.qK,_=>rfl
 |.hY _,_=>rfl
 |.tv _,_=>rfl
 |.s id _ _ _,ad=>by simp only[aT,(h id (ez.1 ad)).1]
 |.aP id _ _ _,ad=>by
  simp only[bM,b7] at ad;simp only[aT,(h id (ez.1 ad.1)).1,(h id (ez.1 ad.1)).2]
 |.oF id _ _ _,ad=>by simp only[aT,(h id (ez.1 ad)).1,(h id (ez.1 ad)).2]
 |.ck,_=>rfl
 |.m id,ad=>by simp only[aT,(h id (ez.1 ad)).1]
 |.nT,_=>rfl
 |.fn f a c,ad=>by
  simp only[bM,b7] at ad;simp only[aT,pU h a ad.1.2,pU h c ad.2];congr 1;cases f<;>first|rfl|(simp only[xg];rw[(h _ (ez.1 ad.1.1)).1])
 |.rC,_=>rfl
 |.kX t x,ad=>by simp only[aT,xS h x ad]
 |.j0,_=>rfl
 |.agg cs,ad=>by simp only[aT,pU h cs ad]
 |.fi vs,ad=>by simp only[aT,pU h vs ad]
theorem pU(h:ds n v a1):∀(l:List ai),cA v n l=true→bt e a1 l=bt e v l
 |[],_=>rfl
 |x::r,ad=>by
  simp only[cA,b7] at ad;simp only[bt,xS h x ad.1,pU h r ad.2]
end
mutual
theorem tq{m:Nat}(h:n≤m):∀(x:ai),bM v n x=true→bM v m x=true
 |.b _,_=>rfl
 |.i _ _,_=>rfl
 |.str _,_=>rfl
 |.p id off,ad=>ez.2 (h6 (ez.1 ad) h)
 |.qK,_=>rfl
 |.hY _,_=>rfl
 |.tv _,_=>rfl
 |.s id _ _ _,ad=>ez.2 (h6 (ez.1 ad) h)
 |.aP id _ _ _,ad=>by
  simp only[bM,b7] at ad⊢;exact⟨ez.2 (h6 (ez.1 ad.1) h),ad.2⟩
 |.oF id _ _ _,ad=>ez.2 (h6 (ez.1 ad) h)
 |.ck,_=>rfl
 |.m id,ad=>ez.2 (h6 (ez.1 ad) h)
 |.nT,_=>rfl
 |.fn f a c,ad=>by
  simp only[bM,b7] at ad⊢;refine⟨⟨?_,qA h a ad.1.2⟩,qA h c ad.2⟩;cases f<;>first|rfl|exact ez.2 (h6 (ez.1 ad.1.1) h)
 |.rC,_=>rfl
 |.kX t x,ad=>tq h x ad
 |.j0,_=>rfl
 |.agg cs,ad=>qA h cs ad
 |.fi vs,ad=>qA h vs ad
theorem qA{m:Nat}(h:n≤m):∀(l:List ai),cA v n l=true→cA v m l=true
 |[],_=>rfl
 |x::r,ad=>by
  simp only[cA,b7] at ad⊢;exact⟨tq h x ad.1,qA h r ad.2⟩
end
mutual
theorem um(h:ds n v a1):∀(x:ai),bM v n x=true→bM a1 n x=true
 |.b _,_=>rfl
 |.i _ _,_=>rfl
 |.str _,_=>rfl
 |.p _ _,ad=>ad
 |.qK,_=>rfl
 |.hY _,_=>rfl
 |.tv _,_=>rfl
 |.s _ _ _ _,ad=>ad
 |.aP id _ _ _,ad=>by
  simp only[bM,b7] at ad⊢;rw[(h id (ez.1 ad.1)).2];exact ad
 |.oF _ _ _ _,ad=>ad
 |.ck,_=>rfl
 |.m _,ad=>ad
 |.nT,_=>rfl
 |.fn f a c,ad=>by
  simp only[bM,b7] at ad⊢;exact⟨⟨ad.1.1,qb h a ad.1.2⟩,qb h c ad.2⟩
 |.rC,_=>rfl
 |.kX t x,ad=>um h x ad
 |.j0,_=>rfl
 |.agg cs,ad=>qb h cs ad
 |.fi vs,ad=>qb h vs ad
theorem qb(h:ds n v a1):∀(l:List ai),cA v n l=true→cA a1 n l=true
 |[],_=>rfl
 |x::r,ad=>by
  simp only[cA,b7] at ad⊢;exact⟨um h x ad.1,qb h r ad.2⟩
end
theorem vZ:∀(l:List ai),bt e v l=l.map (aT e v)
 |[]=>rfl
 |x::r=>by simp only[bt,hW,vZ r]
theorem hy:∀{l:List ai},cA v n l=true↔∀x∈l,bM v n x=true
 |[]=>by simp[cA]
 |x::r=>by simp[cA,hy]
theorem kf(l:List ai):(bt e v l).length=l.length:=by rw[vZ,List.length_map]
theorem FF(a b:List ai):bt e v (a++b)=bt e v a++bt e v b:=by simp only[vZ,List.map_append]
theorem oc(l:List ai)(i:Nat):(bt e v l)[i]?=(l[i]?).map (aT e v):=by rw[vZ,List.getElem?_map]
end
section
variable(P:a8)(e:dB)
def e4(v:cu)(q:ai×ai×Nat):MapEntry:=⟨aT e v q.1,aT e v q.2.1,q.2.2⟩
def nH(v:cu)(env:bp)(tmps:cJ):Prop:=∀t x,env.get t=some x→tmps[t]?=some (aT e v x)
def qQ:Code→List Tmp×Code×Code→Prop
 |.seq a b,x=>qQ a x∨qQ b x
 |.cond _ a b,x=>qQ a x∨qQ b x
 |.block _ a,x=>qQ a x
 |.loop a,x=>qQ a x
 |.rangeFunc _ ps assign body,x=>x=(ps.toList,assign,body)∨qQ assign x∨qQ body x
 |_,_=>False
def A6(fn:dn)(ps:List Tmp)(assign body:Code):Prop:=∃f c,P.funcs[fn]?=some f∧f.body=some c∧qQ c (ps,assign,body)
def apx(v:cu)(g:Nat)(bB:LoopState)(yI:Option Code)(fn:dn)(env:bp)(ps:List Tmp)(assign body:Code)(mB:Nat):bi where
 ok w D:=A6 P fn ps assign body∧∃(jR:dn) (tmps:cJ),nH e v env tmps∧(P.funcs[fn]?).map (·.ntmps)=some tmps.size∧(gQ g (.loop {state:=bB,pending:=yI,fn:=jR,tmps,params:=ps.toArray,assign,body,defers:=v.b4 mB})).ok w D
 loc:=fun⟨aB,jR,tmps,aa,ab,an⟩ ad=>⟨aB,jR,tmps,aa,ab,(gQ _ _).loc an ad⟩
def dV(v:cu)(id:Nat):bQ→bi
 |.cells ty cs=>aE (v.b4 id) ty (bt e v cs).toArray
 |.row ty sz m cs=>own ty sz (some ⟨v.b4 id,0,none⟩) m (v.gN id) (bt e v cs)
 |.map es c=>gQ (v.b4 id) (.map (es.map (e4 e v)).toArray c)
 |.iter m since seen last=>gQ (v.b4 id) (.mapIter (m.map v.b4) since seen.toArray last)
 |.loop bB yI fn env ps assign body mB=>apx P e v (v.b4 id) bB yI fn env ps assign body mB
 |.qc=>gQ (v.b4 id) (.deferred (some []))
 |.la k=>e.la k (v.b4 id)
def qX(v:cu)(n:Nat):bQ→Prop
 |.cells _ cs=>cA v n cs=true
 |.row _ _ _ cs=>cA v n cs=true
 |.map es _=>∀q∈es,bM v n q.1=true∧bM v n q.2.1=true
 |.iter m _ _ _=>∀i,m=some i→i<n
 |.loop _ _ _ env _ _ _ mB=>(∀t x,env.get t=some x→bM v n x=true)∧mB<n
 |.qc=>True
 |.la _=>True
def ct(v:cu)(σ:Mem):Prop:=∀id o,σ.h.get id=some o→id<σ.n∧qX v σ.n o
def bP(v:cu)(h:T bQ):bi where
 ok w D:=∃eJ:Nat→Nat→Prop,(∀id o,h.get id=some o→(dV P e v id o).ok w (eJ id))∧(∀id,h.get id=none→∀k,¬eJ id k)∧(∀i j k,eJ i k→eJ j k→i=j)∧∀k,D k↔∃id,eJ id k
 loc:=by
  rintro w ar D ⟨eJ,aa,ab,an,aK⟩ ad
  exact⟨eJ,fun id o av=>(dV P e v id o).loc (aa id o av) (fun k ah=>ad k ((aK k).2 ⟨id,ah⟩)),ab,an,aK⟩
end
section
variable{P:a8}{e:dB}{v a1:cu}{h dS:T bQ}{n:Nat}
theorem IM{m:Nat}(hm:n≤m){o:bQ}(ad:qX v n o):qX v m o:=by
 cases o with
 |cells=>exact qA hm _ ad
 |row=>exact qA hm _ ad
 |map=>exact fun q aM=>⟨tq hm _ (ad q aM).1,tq hm _ (ad q aM).2⟩
 |iter=>exact fun i hi=>h6 (ad i hi) hm
 |loop=>exact⟨fun t x bb=>tq hm _ (ad.1 t x bb),h6 ad.2 hm⟩
 |qc=>trivial
 |la=>trivial
theorem nH.ext(af:ds n v a1){env:bp}{tmps:cJ}(ad:∀t x,env.get t=some x→bM v n x=true)(aq:nH e v env tmps):nH e a1 env tmps:=
 fun t x bb=>by rw[xS af x (ad t x bb)];exact aq t x bb
theorem asR(af:ds n v a1){o:bQ}(ad:qX v n o):qX a1 n o:=by
 cases o with
 |cells=>exact qb af _ ad
 |row=>exact qb af _ ad
 |map=>exact fun q aM=>⟨um af _ (ad q aM).1,um af _ (ad q aM).2⟩
 |iter=>exact ad
 |loop=>exact⟨fun t x bb=>um af _ (ad.1 t x bb),ad.2⟩
 |qc=>trivial
 |la=>trivial
theorem ct.ext{σ:Mem}(af:ds σ.n v a1)(hm:ct v σ):ct a1 σ:=fun id o av=>⟨(hm id o av).1,asR af (hm id o av).2⟩
theorem ds.symm(af:ds n v a1):ds n a1 v:=fun i hi=>⟨(af i hi).1.symm,(af i hi).2.symm⟩
theorem aiD(af:ds n v a1){id:Nat}{o:bQ}(hi:id<n)(ad:qX v n o){w:ao}{D:Nat→Prop}(h:(dV P e v id o).ok w D):(dV P e a1 id o).ok w D:=by
 obtain⟨aa,ab⟩:=af id hi;cases o with
 |cells ty cs=>simp only[dV,aa,pU af cs ad] at h⊢;exact h
 |row ty sz m cs=>simp only[dV,aa,ab,pU af cs ad] at h⊢;exact h
 |map es c=>
  have:es.map (e4 e a1)=es.map (e4 e v):=m1 (fun q aM=>by unfold e4;rw[xS af _ (ad q aM).1,xS af _ (ad q aM).2]);simp only[dV,aa,this] at h⊢;exact h
 |iter m since seen last=>
  have:m.map a1.b4=m.map v.b4:=by cases m with
   |none=>rfl
   |some i=>simp only[gv,(af i (ad i rfl)).1]
  simp only[dV,aa,this] at h⊢;exact h
 |loop bB yI fn env ps assign body mB=>
  obtain⟨p4,jR,tmps,k1,k2,bx⟩:=h;refine⟨p4,jR,tmps,k1.ext af ad.1,k2,?_⟩;rw[aa,(af mB ad.2).1];exact bx
 |qc=>simp only[dV,aa] at h⊢;exact h
 |la=>simp only[dV,aa] at h⊢;exact h
theorem w9{σ:Mem}(hm:ct v σ)(af:ds σ.n v a1){w:ao}{D:Nat→Prop}(h:(bP P e v σ.h).ok w D):(bP P e a1 σ.h).ok w D:=by
 obtain⟨eJ,aa,ab,an,aK⟩:=h;exact⟨eJ,fun id o av=>aiD af (hm id o av).1 (hm id o av).2 (aa id o av),ab,an,aK⟩
theorem F0(c6:∀id,dS.get id=h.get id){w:ao}{D:Nat→Prop}(ah:(bP P e v h).ok w D):(bP P e v dS).ok w D:=by
 obtain⟨eJ,aa,ab,an,aK⟩:=ah;exact⟨eJ,fun id o av=>aa id o (by rw[←c6];exact av),fun id av=>ab id (by rw[←c6];exact av),an,aK⟩
variable{F:Nat→Prop}{w₀ w:ao}{L:List bi}{id:Nat}{o:bQ}
theorem _root_.Go.a6.au.si{A B:bi}(ada:∀(w:ao) (D:Nat→Prop),A.ok w D→B.ok w D)(h:au F w₀ (A::L) w):au F w₀ (B::L) w:=
 let ⟨D,aa,ab,an⟩:=h.sep;⟨h.b6,h.lt,D,ada w D aa,ab,an⟩
theorem _root_.Go.a6.au.o8(bg:h.get id=some o)(aq:au F w₀ (bP P e v h::L) w):au F w₀ (dV P e v id o::bP P e v (h.del id)::L) w:=by
 obtain⟨D,⟨eJ,aa,ab,an,aK⟩,k2,bx⟩:=aq.sep;refine⟨aq.b6,aq.lt,eJ id,aa id o bg,fun k ah=>k2 k ((aK k).2 ⟨id,ah⟩),fun k=>∃j,j≠id∧eJ j k,⟨fun j k=>j≠id∧eJ j k,?_,?_,?_,fun k=>qT⟩,?_,bx.nU ?_⟩
 ·intro j q ax;rw[T.wu] at ax;by_cases eK:j=id
  ·rw[aD eK] at ax;cases ax
  ·rw[az eK] at ax;have:(fun k=>j≠id∧eJ j k)=eJ j:=by funext k;exact propext ⟨fun h=>h.2,fun h=>⟨eK,h⟩⟩
   show(dV P e v j q).ok w (fun k=>j≠id∧eJ j k);rw[this];exact aa j q ax
 ·rintro j ax k ⟨eK,ah⟩;rw[T.wu,az eK] at ax;exact ab j ax k ah
 ·rintro i j k ⟨_,hi⟩ ⟨_,ax⟩;exact an i j k hi ax
 ·rintro k ⟨j,eK,ah⟩;refine⟨?_,(k2 k ((aK k).2 ⟨j,ah⟩)).2⟩;rintro(aI|aI)
  ·exact(k2 k ((aK k).2 ⟨j,ah⟩)).1 aI
  ·exact eK (an j id k ah aI)
 ·rintro k ((ah|ah)|⟨j,_,ah⟩)
  ·exact .inl ah
  ·exact .inr ((aK k).2 ⟨id,ah⟩)
  ·exact .inr ((aK k).2 ⟨j,ah⟩)
theorem _root_.Go.a6.au.uS(bg:h.get id=none)(aq:au F w₀ (dV P e v id o::bP P e v h::L) w):au F w₀ (bP P e v (h.put id o)::L) w:=by
 obtain⟨iI,k1,k2,iU,⟨eJ,aa,ab,an,aK⟩,bx,cl⟩:=aq.sep;refine⟨aq.b6,aq.lt,fun k=>∃j,(if j=id then iI k else eJ j k),⟨fun j k=>if j=id then iI k else eJ j k,?_,?_,?_,fun k=>qT⟩,?_,cl.nU ?_⟩
 ·intro j q ax;rw[T.oZ] at ax;by_cases eK:j=id
  ·rw[aD eK] at ax;obtain rfl:=er ax;have:(fun k=>if j=id then iI k else eJ j k)=iI:=by funext k;rw[aD eK]
   show(dV P e v j _).ok w (fun k=>if j=id then iI k else eJ j k);rw[this,eK];exact k1
  ·rw[az eK] at ax;have:(fun k=>if j=id then iI k else eJ j k)=eJ j:=by funext k;rw[az eK]
   show(dV P e v j q).ok w (fun k=>if j=id then iI k else eJ j k);rw[this];exact aa j q ax
 ·intro j ax k ah;rw[T.oZ] at ax;by_cases eK:j=id
  ·rw[aD eK] at ax;cases ax
  ·rw[az eK] at ax ah;exact ab j ax k ah
 ·intro i j k hi ax;by_cases GV:i=id
  ·by_cases eK:j=id
   ·rw[GV,eK]
   ·rw[aD GV] at hi;rw[az eK] at ax;exact absurd (.inr hi) (bx k ((aK k).2 ⟨j,ax⟩)).1
  ·by_cases eK:j=id
   ·rw[az GV] at hi;rw[aD eK] at ax;exact absurd (.inr ax) (bx k ((aK k).2 ⟨i,hi⟩)).1
   ·rw[az GV] at hi;rw[az eK] at ax;exact an i j k hi ax
 ·rintro k ⟨j,ah⟩;by_cases eK:j=id
  ·rw[aD eK] at ah;exact k2 k ah
  ·rw[az eK] at ah;have:=bx k ((aK k).2 ⟨j,ah⟩);exact⟨fun aI=>this.1 (.inl aI),this.2⟩
 ·rintro k (ah|⟨j,ah⟩)
  ·exact .inl (.inl ah)
  ·by_cases eK:j=id
   ·rw[aD eK] at ah;exact .inl (.inr ah)
   ·rw[az eK] at ah;exact .inr ((aK k).2 ⟨j,ah⟩)
theorem _root_.Go.a6.au.Ke(aq:au F w₀ (dV P e v id o::bP P e v (h.del id)::L) w):au F w₀ (bP P e v (h.put id o)::L) w:=by
 have aa:=au.uS (by rw[T.wu,aD rfl]) aq;refine au.si (fun w D ah=>F0 (fun j=>?_) ah) aa;rw[T.oZ,T.oZ,T.wu];by_cases ax:j=id
 ·rw[aD ax,aD ax]
 ·rw[az ax,az ax,az ax]
theorem _root_.Go.a6.au.agv(aq:au F w₀ (bP P e v h::L) w):au F w₀ (bP P e v (h.del id)::L) w:=by
 cases bg:h.get id with
 |some o=>exact(aq.o8 bg).tail
 |none=>
  refine au.si (fun w D ah=>F0 (fun j=>?_) ah) aq;rw[T.wu];by_cases ax:j=id
  ·rw[aD ax,ax,bg]
  ·rw[az ax]
theorem ct.set{σ:Mem}(hm:ct v σ)(hi:id<σ.n)(ad:qX v σ.n o):ct v (σ.set id o):=by
 intro j q ax;simp only[Mem.set,T.oZ] at ax;by_cases eK:j=id
 ·rw[aD eK] at ax;obtain rfl:=er ax;exact⟨by rw[eK];exact hi,ad⟩
 ·rw[az eK] at ax;exact hm j q ax
theorem ct.new{σ:Mem}(hm:ct v σ)(ad:qX v (σ.n+1) o):ct v (σ.new o):=by
 intro j q ax;simp only[Mem.new,T.oZ] at ax⊢;by_cases eK:j=σ.n
 ·rw[aD eK] at ax;obtain rfl:=er ax;exact⟨by omega,ad⟩
 ·rw[az eK] at ax;exact⟨JM (hm j q ax).1,IM (k5 _) (hm j q ax).2⟩
theorem ct.kill{σ:Mem}(hm:ct v σ):ct v (σ.kill id):=by
 intro j q ax;simp only[Mem.kill,T.wu] at ax⊢;by_cases eK:j=id
 ·rw[aD eK] at ax;cases ax
 ·rw[az eK] at ax;exact hm j q ax
theorem ct.fresh{σ:Mem}(hm:ct v σ):σ.h.get σ.n=none:=by
 cases bg:σ.h.get σ.n with
 |none=>rfl
 |some o=>exact absurd (hm _ _ bg).1 (by omega)
end
structure fk(e:dB)(v:cu)(env:bp)(bL:Nat)(aX:List fj)(a:Act):Prop where
 size:a.tmps.size=bL
 vI:nH e v env a.tmps
 defers:a.defers=aX
def fu(v:cu)(n:Nat)(env:bp):Prop:=∀t x,env.get t=some x→bM v n x=true
def ze(e:dB)(w:ao):Prop:=∀c,c<x7→Live (e c) w
def zo(e:dB):Prop:=∀a b,a<x7→b<x7→e a=e b→a=b
section
variable{e:dB}{v a1:cu}{n bL:Nat}{env:bp}{aX:List fj}{a:Act}
theorem JT{x:aV}{y:ai}(h:zX x=some y):aT e v y=x∧bM v n y=true:=by
 unfold zX at h;split at h<;>simp only[eb,reduceCtorEq] at h<;>(try (subst h;exact⟨I,I⟩))
theorem Ut:∀{l:cw} {ys:List ai},za l=some ys→bt e v ys=l∧cA v n ys=true
 |[],ys,h=>by simp only[za,eb] at h;subst h;exact⟨I,I⟩
 |x::r,ys,h=>by
  simp only[za] at h;cases aa:zX x with
  |none=>rw[aa] at h;cases h
  |some y=>
   rw[aa] at h;simp only[Hm] at h;cases ab:za r with
   |none=>rw[ab] at h;cases h
   |some q=>
    rw[ab] at h;simp only[gv,eb] at h;subst h;obtain⟨k1,k2⟩:=JT (e:=e) (v:=v) (n:=n) aa;obtain⟨bx,cl⟩:=Ut ab;exact⟨by simp only[bt,k1,bx],by simp only[cA,k2,cl,pH]⟩
theorem xr{x:aV}{y:ai}(h:Hw x=some y):aT e v y=x∧bM v n y=true:=by
 cases x with
 |agg cs=>
  simp only[Hw] at h;cases ab:za cs.toList with
  |none=>rw[ab] at h;cases h
  |some q=>
   rw[ab] at h;simp only[gv,eb] at h;subst h;obtain⟨bx,cl⟩:=Ut (e:=e) (v:=v) (n:=n) ab;exact⟨by simp only[aT,bx,QG],cl⟩
 |_=>exact JT h
theorem dC(aj:fk e v env bL aX a){x:bf}{y:ai}(h:dt env x=some y):a.eval x=aT e v y:=by
 cases x with
 |tmp t=>
  have:=aj.vI t y h;simp[Act.eval,HZ,this]
 |const u=>exact(JT (n:=0) h).1.symm
 |global g=>simp only[dt,eb] at h;subst h;rfl
 |func f=>simp only[dt,eb] at h;subst h;rfl
theorem jg(ad:fu v n env){x:bf}{y:ai}(h:dt env x=some y):bM v n y=true:=by
 cases x with
 |tmp t=>exact ad t y h
 |const u=>exact(JT (e:=default) (v:=v) h).2
 |global g=>simp only[dt,eb] at h;subst h;rfl
 |func f=>simp only[dt,eb] at h;subst h;rfl
theorem CV(aj:fk e v env bL aX a):∀{xs:List bf} {ys:List ai},oB env xs=some ys→xs.map a.eval=bt e v ys
 |[],ys,h=>by simp only[oB,eb] at h;subst h;rfl
 |x::r,ys,h=>by
  simp only[oB] at h;cases aa:dt env x with
  |none=>rw[aa] at h;cases h
  |some y=>
   rw[aa] at h;simp only[Hm] at h;cases ab:oB env r with
   |none=>rw[ab] at h;cases h
   |some q=>
    rw[ab] at h;simp only[gv,eb] at h;subst h;simp only[hW,bt,dC aj aa,CV aj ab]
theorem FJ(ad:fu v n env):∀{xs:List bf} {ys:List ai},oB env xs=some ys→cA v n ys=true
 |[],ys,h=>by simp only[oB,eb] at h;subst h;rfl
 |x::r,ys,h=>by
  simp only[oB] at h;cases aa:dt env x with
  |none=>rw[aa] at h;cases h
  |some y=>
   rw[aa] at h;simp only[Hm] at h;cases ab:oB env r with
   |none=>rw[ab] at h;cases h
   |some q=>
    rw[ab] at h;simp only[gv,eb] at h;subst h;simp only[cA,jg ad aa,FJ ad ab,pH]
theorem bC{α β:Type}{o:Option α}{f:α→Option β}{y:β}(h:o.bind f=some y):∃x,o=some x∧f x=some y:=Option.bind_eq_some_iff.1 h
theorem dH{α β:Type}{o:Option α}{f:α→β}{y:β}(h:o.map f=some y):∃x,o=some x∧f x=y:=Option.map_eq_some_iff.1 h
theorem aqL{k cb:cg}(h:sameKind k cb=true):k=cb:=by
 cases k<;>cases cb<;>first|rfl|(exact absurd h (by decide))
variable{P:a8}{w:ao}
theorem air{op:BinOp}{k:cg}{p q:Int}{y:ai}(t:aO)(h:Om op k p q=some y)(aq:Hz op=false):(binOp op t (.int k p) (.int k q)).run P w=.ok (aT e v y) w∧bM v n y=true:=by
 cases op<;>first
  |(exact absurd aq (by decide))
  |(injection h with h;subst h;exact⟨UM t k p q _ I,I⟩)
  |(injection h with h;subst h;exact⟨Tm t k p q _ I,I⟩)
  |(injection h with h;subst h;exact⟨V5 t k p q _ I,I⟩)
  |(injection h with h;subst h;exact⟨ZE _ t k p q I,I⟩)
  |(injection h with h;subst h;refine⟨?_,I⟩;rw[yh _ t k p q rfl];simp[HD,aT];done)
  |skip
 ·change LK k p q=some y at h;unfold LK at h;by_cases aB:q=0
  ·subst aB;cases h
  ·have:(q==0)=false:=by simpa using aB
   rw[this,eO] at h;injection h with h;subst h;exact⟨Xk t k p q _ aB I,I⟩
 ·change Qu k p q=some y at h;unfold Qu at h;by_cases aB:q=0
  ·subst aB;cases h
  ·have:(q==0)=false:=by simpa using aB
   rw[this,eO] at h;injection h with h;subst h;exact⟨T2 t k p q aB,I⟩
theorem atf{op:BinOp}{k cb:cg}{p q:Int}{y:ai}(t:aO)(h:Om op k p q=some y)(aq:Hz op=true):(binOp op t (.int k p) (.int cb q)).run P w=.ok (aT e v y) w∧bM v n y=true:=by
 cases op<;>first|(exact absurd aq (by decide))|skip
 ·change ZQ k p q=some y at h;cases q with
  |ofNat b=>injection h with h;subst h;exact⟨ZC t k cb p (.ofNat b) _ (u5 b) I,I⟩
  |negSucc b=>cases h
 ·change UI k p q=some y at h;cases q with
  |ofNat b=>injection h with h;subst h;exact⟨Za t k cb p (.ofNat b) (u5 b),I⟩
  |negSucc b=>cases h
theorem asn{op:BinOp}{k cb:cg}{p q:Int}{y:ai}(t:aO)(h:KM op k p cb q=some y):(binOp op t (.int k p) (.int cb q)).run P w=.ok (aT e v y) w∧bM v n y=true:=by
 unfold KM at h;cases aq:Hz op with
 |true=>rw[aq] at h;exact atf t h aq
 |false=>
  rw[aq] at h;cases ah:sameKind k cb with
  |true=>rw[ah] at h;rw[←aqL ah];exact air t h aq
  |false=>rw[ah] at h;cases h
theorem abx{t:aO}:(vo P t=1→P.underlying t=some .bool)∧(vo P t=2→∃el i,P.underlying t=some (.pointer el)∧P.info? el=some i∧i.size≠0)∧(vo P t=3→∃fP,P.underlying t=some (.interface fP))∧
  (vo P t=4→∃a b c,P.underlying t=some (.func a b c))∧(vo P t=5→∃el,P.underlying t=some (.slice el))∧(vo P t=6→∃k el,P.underlying t=some (.map k el)):=by
 unfold vo;split
 ·rename_i h;simp[h]
 ·rename_i el h;split
  ·rename_i i hi;by_cases aB:i.size=0
   ·rw[aB];simp
   ·rw[iT aB,eO];exact⟨fun h=>absurd h (by decide),fun _=>⟨el,i,h,hi,aB⟩,fun h=>absurd h (by decide),fun h=>absurd h (by decide),fun h=>absurd h (by decide),fun h=>absurd h (by decide)⟩
  ·simp
 ·rename_i fP h;simp[h]
 ·rename_i a b c h;simp[h]
 ·rename_i el h;simp[h]
 ·rename_i k el h;simp[h]
 ·simp
theorem anG{t el:aO}{i:TypeInfo}(bb:P.underlying t=some (.pointer el))(hi:P.info? el=some i)(aq:i.size≠0){x y:ai}{r:Bool}(h:GA x y=some r)(d:Nat):(Op.equalIn (d+1) t (aT e v x) (aT e v y)).run P w=.ok r w:=by
 unfold GA at h;split at h
 ·injection h with h;subst h;(simp only[aT];unfold Op.equalIn;simp only[Sem.run_bind,run_underlying bb,Result.andThen_ok];first|rfl|(rename_i q;cases q<;>rfl))
 ·injection h with h;subst h;(simp only[aT];unfold Op.equalIn;simp only[Sem.run_bind,run_underlying bb,Result.andThen_ok];first|rfl|(rename_i q;cases q<;>rfl))
 ·injection h with h;subst h;(simp only[aT];unfold Op.equalIn;simp only[Sem.run_bind,run_underlying bb,Result.andThen_ok];first|rfl|(rename_i q;cases q<;>rfl))
 ·rename_i a o b q;cases rU:Nat.beq a b with
  |false=>rw[rU] at h;cases h
  |true=>
   rw[rU] at h;obtain rfl:=dI rU;injection h with h;subst h;simp only[aT,Op.equalIn,Sem.run_bind,run_underlying bb,Result.andThen_ok,sizeOf,mf hi,Sem.run_pure,aD aq];unfold sameAddr;simp only[beq_self_eq_true,jU,Sem.run_pure];congr 1;rw[Bool.eq_iff_iff];simp[Nat.beq_eq]
 ·cases h
theorem akC{t:aO}{fP:Array (String×aO)}(gZ:ze e w)(bs:zo e)(bb:P.underlying t=some (.interface fP)){c:Bool}{x y:ai}{r:Bool}(h:IP P c x y=some r)(d:Nat):(Op.equalIn (d+2) t (aT e v x) (aT e v y)).run P w=.ok r w:=by
 unfold IP at h;split at h
 ·cases c with
  |false=>cases h
  |true=>injection h with h;subst h;(simp only[aT];unfold Op.equalIn;simp only[Sem.run_bind,run_underlying bb,Result.andThen_ok];first|rfl|(rename_i q;cases q<;>rfl))
 ·injection h with h;subst h;(simp only[aT];unfold Op.equalIn;simp only[Sem.run_bind,run_underlying bb,Result.andThen_ok];first|rfl|(rename_i q;cases q<;>rfl))
 ·injection h with h;subst h;(simp only[aT];unfold Op.equalIn;simp only[Sem.run_bind,run_underlying bb,Result.andThen_ok];first|rfl|(rename_i q;cases q<;>rfl))
 ·rename_i x9 x apL y;by_cases KE:x9=apL
  ·subst KE;rw[mb,cp] at h;cases c6:Rg P x9 with
   |false=>rw[c6] at h;cases h
   |true=>
    rw[c6,cp] at h;unfold Rg at c6;rw[b7] at c6;obtain⟨el,j,ab,an,cd⟩:=(abx (t:=x9)).2.1 (dI c6.1);cases hi:P.info? x9 with
    |none=>rw[hi] at c6;exact absurd c6.2 (by decide)
    |some i=>
     rw[hi] at c6;unfold St at h;split at h
     ·rename_i a b;cases rU:(Nat.blt a x7&&Nat.blt b x7) with
      |false=>rw[rU] at h;cases h
      |true=>
       rw[rU,cp] at h;injection h with h;rw[b7] at rU;have aj:=ez.1 rU.1;have ad:=ez.1 rU.2;subst h;by_cases bu:a=b
       ·subst bu;rw[mb];simp only[aT];exact run_equalIn_iface_ptr_same w d (e a) bb ab hi c6.2 an
       ·rw[iT bu];obtain⟨nN,avL,k1⟩:=gZ a aj;obtain⟨vD,fy,k2⟩:=gZ b ad;simp only[aT];exact run_equalIn_iface_ptr_other w d bb ab hi c6.2 an cd (fun h=>bu (bs a b aj ad h)) k1 k2
     ·cases h
  ·rw[iT KE,eO] at h;injection h with h;subst h
   (simp only[aT];unfold Op.equalIn;simp only[Sem.run_bind,run_underlying bb,Result.andThen_ok,ne_eq,KE,not_false_eq_true,jU];rfl)
 ·cases h
theorem aty{t:aO}(gZ:ze e w)(bs:zo e){c:Bool}{x y:ai}{r:Bool}(h:y4 P c t x y=some r)(d:Nat):(Op.equalIn (d+2) t (aT e v x) (aT e v y)).run P w=.ok r w:=by
 obtain⟨s1,s2,mm,oM,rE,aew⟩:=abx (P:=P) (t:=t);unfold y4 at h;split at h
 ·rename_i ah;have bb:=s1 ah;unfold Qs at h;split at h
  ·injection h with h;subst h;(simp only[aT];unfold Op.equalIn;simp only[Sem.run_bind,run_underlying bb,Result.andThen_ok];first|rfl|(rename_i q;cases q<;>rfl))
  ·cases h
 ·rename_i ah;obtain⟨el,i,aa,ab,an⟩:=s2 ah;exact anG aa ab an h (d+1)
 ·rename_i ah;obtain⟨fP,bb⟩:=mm ah;exact akC gZ bs bb h d
 ·rename_i ah;obtain⟨_,_,_,bb⟩:=oM ah;unfold P6 at h;split at h<;>first|(cases h;done)|(injection h with h;subst h;(simp only[aT];unfold Op.equalIn;simp only[Sem.run_bind,run_underlying bb,Result.andThen_ok];first|rfl|(rename_i q;cases q<;>rfl)))
 ·rename_i ah;obtain⟨_,bb⟩:=rE ah;unfold RL at h;split at h<;>first|(cases h;done)|(injection h with h;subst h;(simp only[aT];unfold Op.equalIn;simp only[Sem.run_bind,run_underlying bb,Result.andThen_ok];first|rfl|(rename_i q;cases q<;>rfl)))
 ·rename_i ah;obtain⟨_,_,bb⟩:=aew ah;unfold Of at h;split at h<;>first|(cases h;done)|(injection h with h;subst h;(simp only[aT];unfold Op.equalIn;simp only[Sem.run_bind,run_underlying bb,Result.andThen_ok];first|rfl|(rename_i q;cases q<;>rfl)))
 ·cases h
theorem Vj{t:aO}(gZ:ze e w)(bs:zo e){c:Bool}{x y:ai}{r:Bool}(h:y4 P c t x y=some r):(Op.equal t (aT e v x) (aT e v y)).run P w=.ok r w:=aty gZ bs h 9998
end
section
variable{e:dB}{v a1:cu}{n bL:Nat}{env:bp}{aX:List fj}{a:Act}{P:a8}{w:ao}
theorem abY{t:aO}{X Y:bf}{x y:ai}{r:Bool}(h:y4 P (w3 X||w3 Y) t x y=some r):(∀op,(eqGuard op t X Y (aT e v x) (aT e v y)).run P w=.ok () w)∧
  (binOp .eql t (aT e v x) (aT e v y)=do pure (.bool (←Op.equal t (aT e v x) (aT e v y))))∧(binOp .neq t (aT e v x) (aT e v y)=do pure (.bool (!(←Op.equal t (aT e v x) (aT e v y))))):=by
 unfold y4 at h;split at h
 ·unfold Qs at h;split at h<;>first|(cases h;done)|exact⟨fun op=>by unfold eqGuard;cases op<;>rfl,rfl,rfl⟩
 ·unfold GA at h;split at h<;>first|(cases h;done)|exact⟨fun op=>by unfold eqGuard;cases op<;>rfl,rfl,rfl⟩
 ·unfold IP at h;split at h
  ·cases ag:(w3 X||w3 Y) with
   |false=>rw[ag] at h;cases h
   |true=>
    refine⟨fun op=>?_,I,I⟩;unfold eqGuard;cases X<;>cases Y<;>first|(exact absurd ag Bool.false_ne_true)|(cases op<;>rfl)
  all_goals first|(cases h;done)|exact⟨fun op=>by unfold eqGuard;cases op<;>rfl,rfl,rfl⟩
 ·unfold P6 at h;split at h<;>first|(cases h;done)|exact⟨fun op=>by unfold eqGuard;cases op<;>rfl,rfl,rfl⟩
 ·unfold RL at h;split at h<;>first|(cases h;done)|exact⟨fun op=>by unfold eqGuard;cases op<;>rfl,rfl,rfl⟩
 ·unfold Of at h;split at h<;>first|(cases h;done)|exact⟨fun op=>by unfold eqGuard;cases op<;>rfl,rfl,rfl⟩
 ·cases h
theorem afE(gZ:ze e w)(bs:zo e){t:aO}{op:BinOp}{X Y:bf}{x y r:ai}(h:Np P (w3 X||w3 Y) t op x y=some r):
  (do eqGuard op t X Y (aT e v x) (aT e v y);binOp op t (aT e v x) (aT e v y)).run P w=.ok (aT e v r) w∧bM v n r=true:=by
 unfold Np at h;split at h
 ·rename_i k p;unfold acM at h;split at h
  ·rename_i cb q;obtain⟨aa,ab⟩:=asn (e:=e) (v:=v) (n:=n) (P:=P) (w:=w) t h;exact⟨by simp only[aT,Sem.run_bind,abo,Result.andThen_ok];exact aa,ab⟩
  ·cases h
 ·unfold Ud at h;split at h
  ·obtain⟨b,aa,rfl⟩:=dH h;obtain⟨k1,k2,bx⟩:=abY (e:=e) (v:=v) (w:=w) aa;exact⟨by simp only[Sem.run_bind,k1,Result.andThen_ok,k2,Vj gZ bs aa,Sem.run_pure,aT],I⟩
  ·obtain⟨b,aa,rfl⟩:=dH h;obtain⟨k1,k2,bx⟩:=abY (e:=e) (v:=v) (w:=w) aa;exact⟨by simp only[Sem.run_bind,k1,Result.andThen_ok,bx,Vj gZ bs aa,Sem.run_pure,aT],I⟩
  ·cases h
theorem amK{op:UnOp}{x r:ai}(h:Pt op x=some r):(Op.unary op (aT e v x)).run P w=.ok (aT e v r) w∧bM v n r=true:=by
 unfold Pt at h;split at h
 ·injection h with h;subst h;exact⟨I,I⟩
 ·injection h with h;subst h;exact⟨I,I⟩
 ·injection h with h;subst h;exact⟨I,I⟩
 ·cases h
theorem vA{t E:aO}(h:va P t=some E):P.underlying t=some (.slice E):=by
 unfold va at h;split at h
 ·injection h with h;subst h;assumption
 ·cases h
theorem abh{t:aO}{k:cg}(h:Jv P t=some k):P.underlying t=some (.int k):=by
 unfold Jv at h;split at h
 ·injection h with h;subst h;assumption
 ·cases h
theorem r0{t:aO}{m:Nat}(h:ko P t=some m):∃i,P.info? t=some i∧i.size=m:=by
 unfold ko at h;split at h
 ·rename_i i hi;injection h with h;exact⟨i,hi,h⟩
 ·cases h
theorem S1{t:aO}{f o:Nat}{u:aO}(h:Iz P t f=some (o,u)):∃(cZ:Array Field) (fl:Field) (i:TypeInfo),P.underlying t=some (.struct cZ)∧cZ[f]?=some fl∧fl.offset=o∧fl.type=u∧P.info? u=some i∧i.size≠0:=by
 unfold Iz at h;split at h
 ·rename_i cZ qN;split at h
  ·rename_i fl js;split at h
   ·rename_i i hi;by_cases aB:i.size=0
    ·rw[aB] at h;cases h
    ·rw[iT aB,eO] at h;simp only[eb,fs] at h;obtain⟨rfl,rfl⟩:=h;exact⟨cZ,fl,i,qN,js,I,I,hi,aB⟩
   ·cases h
  ·cases h
 ·cases h
theorem TQ{t:aO}(h:Ae P t=true):∃d,P.underlying t=some d∧∀fP,d≠.interface fP:=by
 unfold Ae at h;split at h
 ·cases h
 ·rename_i d aQ aW;exact⟨d,aW,fun fP he=>aQ fP he⟩
 ·cases h
structure ml(P:a8)(e:dB)(v:cu)(n:Nat)(a:Act)(w:ao)(o:Oper)(r:ai):Prop where
 run:(execOp a.eval o).run P w=.ok (.value (aT e v r)) w
 bM:bM v n r=true
variable{o:Oper}{r:ai}
theorem UY(aj:fk e v env bL aX a)(ad:fu v n env){x:bf}(av:o.op=.move x∨o.op=.assign x)(h:K1 x P env=some r):ml P e v n a w o r:=by
 refine⟨?_,jg ad h⟩;rcases av with av|av<;>simp only[execOp,av,dC aj h,Sem.run_pure]
theorem ara(aj:fk e v env bL aX a)(ad:fu v n env){c x y:bf}(av:o.op=.pick c x y)(h:Sj c x y P env=some r):ml P e v n a w o r:=by
 obtain⟨q,aa,ab⟩:=bC h;unfold VS at ab;split at ab
 ·refine⟨?_,jg ad ab⟩;simp only[execOp,av,dC aj aa,dC aj ab,aT,asBool,Sem.run_bind,Sem.run_pure,Result.andThen_ok,jU]
 ·refine⟨?_,jg ad ab⟩;simp only[execOp,av,dC aj aa,dC aj ab,aT,asBool,Sem.run_bind,Sem.run_pure,Result.andThen_ok,ul,oy]
 ·cases ab
theorem ark(aj:fk e v env bL aX a)(ad:fu v n env){x:bf}(av:o.op=.nilCheck x)(h:TF x P env=some r):ml P e v n a w o r:=by
 obtain⟨q,aa,ab⟩:=bC h;have fZ:=jg ad aa;unfold Wn at ab;split at ab<;>first
  |(cases ab;done)
  |(injection ab with ab;subst ab;refine⟨?_,fZ⟩;simp only[execOp,av,dC aj aa,aT];first|rfl|(simp only[xg];rfl))
theorem akw(gZ:ze e w)(bs:zo e)(aj:fk e v env bL aX a){op:BinOp}{t jD:aO}{x y:bf}(av:o.op=.binOp op t x y jD)(h:WH op t x y jD P env=some r):ml P e v n a w o r:=by
 obtain⟨p,aa,ab⟩:=bC h;obtain⟨q,an,aK⟩:=bC ab;obtain⟨k1,k2⟩:=afE (v:=v) (n:=n) gZ bs aK;refine⟨?_,k2⟩;simp only[execOp,av,dC aj aa,dC aj an];rw[Sem.run_bind,k1];rfl
theorem atJ(aj:fk e v env bL aX a){op:UnOp}{t:aO}{x:bf}(av:o.op=.unOp op t x)(h:X6 op t x P env=some r):ml P e v n a w o r:=by
 obtain⟨p,aa,ab⟩:=bC h;obtain⟨k1,k2⟩:=amK (e:=e) (v:=v) (n:=n) (P:=P) (w:=w) ab;refine⟨?_,k2⟩;simp only[execOp,av,dC aj aa];rw[Sem.run_bind,k1];rfl
theorem ah2(aj:fk e v env bL aX a){s d:aO}{x:bf}(av:o.op=.convert s d x)(h:abd s d x P env=some r):ml P e v n a w o r:=by
 obtain⟨p4,aa,h⟩:=bC h;obtain⟨k,ab,h⟩:=bC h;obtain⟨q,an,aK⟩:=bC h;unfold VT at aK;split at aK
 ·injection aK with aK;subst aK;refine⟨?_,I⟩;simp only[execOp,av,dC aj an,aT,Sem.run_bind,convert,run_underlying (abh aa),run_underlying (abh ab),Result.andThen_ok,Conv.intToInt,Sem.run_pure]
 ·cases aK
theorem adN(aj:fk e v env bL aX a)(ad:fu v n env){t:aO}{x:bf}(av:o.op=.makeInterface t x)(h:Rn t x P env=some r):ml P e v n a w o r:=by
 unfold Rn at h;cases ag:Ae P t with
 |false=>rw[ag] at h;cases h
 |true=>
  rw[ag,cp] at h;obtain⟨q,aa,rfl⟩:=dH h;obtain⟨d,aW,aQ⟩:=TQ ag;have aM:=jg ad aa;refine⟨?_,aM⟩;simp only[execOp,av,dC aj aa,aT,Sem.run_bind,Instr.makeInterface,run_underlying aW,Result.andThen_ok];cases d<;>first|rfl|exact absurd rfl (aQ _)
theorem ac3(aj:fk e v env bL aX a)(ad:fu v n env){f:Fn}{cZ cs:Array bf}(av:o.op=.makeFunc f cZ cs)(h:UD f cZ cs P env=some r):ml P e v n a w o r:=by
 obtain⟨xs,aa,h⟩:=bC h;obtain⟨ys,ab,h⟩:=bC h;unfold YQ at h;split at h
 ·injection h with h;subst h;refine⟨?_,by simp only[Go.In.bM,Gi,FJ ad aa,FJ ad ab,pH]⟩;have bu:cZ.map a.eval=(bt e v xs).toArray:=by apply mh;rw[oV];exact CV aj aa
  have bD:cs.map a.eval=(bt e v ys).toArray:=by apply mh;rw[oV];exact CV aj ab
  simp only[execOp,av,bu,bD,aT,xg,Sem.run_bind,Instr.makeFunc,Result.andThen_ok,Sem.run_pure]
 ·cases h
theorem at6(aj:fk e v env bL aX a)(ad:fu v n env){t:aO}{x:bf}{f:Nat}(av:o.op=.fieldAddr t x f)(h:Ws t x f P env=some r):ml P e v n a w o r:=by
 obtain⟨⟨q,u⟩,aa,h⟩:=bC h;obtain⟨y,ab,h⟩:=bC h;obtain⟨cZ,fl,i,k1,k2,bx,cl,eG,kB⟩:=S1 aa;have fZ:=jg ad ab;unfold Sq at h;split at h
 ·rename_i id off;injection h with h;subst h;have eH:bX P t f q:=bX.mk' k1 k2 bx (by rw[cl,eG];simp[kB]);refine⟨?_,fZ⟩;simp only[execOp,av,dC aj ab,aT,Sem.run_bind,eH.run,Result.andThen_ok,Sem.run_pure]
 ·cases h
theorem arv(aj:fk e v env bL aX a)(ad:fu v n env){x:bf}{j:Nat}(av:o.op=.extract x j)(h:U1 x j P env=some r):ml P e v n a w o r:=by
 obtain⟨y,ab,h⟩:=bC h;have fZ:=jg ad ab;unfold Zi at h;split at h
 ·rename_i vs;refine⟨?_,hy.1 fZ r (iF h)⟩;have br:(bt e v vs).toArray[j]?=some (aT e v r):=by simp[oc,h]
  simp only[execOp,av,dC aj ab,aT,Sem.run_bind,Instr.extract,br,Result.andThen_ok,Sem.run_pure]
 ·cases h
end
theorem ax5:∀(n:Nat) (l:List ai),Sm n l=l.drop n
 |0,_=>rfl
 |_+1,[]=>rfl
 |n+1,_::r=>ax5 n r
theorem I4:∀{n:Nat} {l r:List ai},takeN n l=some r→r=l.take n∧r.length=n∧n≤l.length
 |0,_,_,h=>by simp only[takeN,eb] at h;subst h;exact⟨I,I,dg _⟩
 |n+1,[],_,h=>by simp[takeN] at h
 |n+1,x::q,r,h=>by
  simp only[takeN] at h;obtain⟨y,aa,rfl⟩:=dH h;obtain⟨k1,k2,bx⟩:=I4 aa;subst k1;exact⟨I,by simp only[iG,k2],by simp only[iG];omega⟩
theorem WJ{cs r:List ai}{off n:Nat}(h:slice? cs off n=some r):r=(cs.drop off).take n∧r.length=n:=by
 unfold slice? at h;rw[ax5] at h;obtain⟨aa,ab,_⟩:=I4 h;exact⟨aa,ab⟩
section
variable{e:dB}{v a1:cu}{n bL:Nat}{env:bp}{aX:List fj}{a:Act}{P:a8}{w:ao}{o:Oper}{r:ai}
theorem adb{cs q:List ai}{off m:Nat}(h:slice? cs off m=some q):bt e v q=((bt e v cs).drop off).take m:=by
 rw[(WJ h).1,vZ,vZ,AZ,LH]
theorem aiV{cs q:List ai}{off m:Nat}(ad:cA v n cs=true)(h:slice? cs off m=some q):cA v n q=true:=by
 rw[(WJ h).1];exact hy.2 (fun x af=>hy.1 ad x (xG (n9 af)))
theorem zG{t:aO}{b:Bool}(h:yj P t=some b):∃d,P.underlying t=some d∧wJ d=b:=by
 unfold yj at h;split at h
 ·injection h with h;subst h;exact⟨_,by assumption,I⟩
 ·injection h with h;subst h;exact⟨_,by assumption,I⟩
 ·rename_i d aa ab aW;injection h with h;subst h;refine⟨d,aW,?_⟩;cases d<;>first|rfl|exact absurd rfl (aa _)|exact absurd rfl (ab _ _)
 ·cases h
theorem XD{t:aO}{b:Bool}(h:yj P t=some b):(isAgg t).run P w=.ok b w:=by
 obtain⟨d,aW,aH⟩:=zG h;simp only[isAgg,Sem.run_bind,run_underlying aW,Result.andThen_ok];subst aH;cases d<;>rfl
theorem qy{t:aO}{m:Nat}(h:ko P t=some m):(sizeOf t).run P w=.ok m w:=by
 obtain⟨i,hi,aq⟩:=r0 h;simp only[sizeOf,Sem.run_bind,mf hi,Result.andThen_ok,aq,Sem.run_pure]
theorem ZY{u:aO}{cs:List ai}{off:Nat}(ad:cA v n cs=true)(h:LM P u cs off=some r):(part u (bt e v cs).toArray off).run P w=.ok (aT e v r) w∧bM v n r=true:=by
 obtain⟨b,aa,h⟩:=bC h;obtain⟨m,ab,h⟩:=bC h;cases b with
 |true=>
  rw[cp] at h;obtain⟨q,an,rfl⟩:=dH h;refine⟨?_,aiV ad an⟩;simp only[part,Sem.run_bind,XD aa,Result.andThen_ok,jU,qy ab,Sem.run_pure,aT,adb an];simp
 |false=>
  rw[eO] at h;refine⟨?_,hy.1 ad r (iF h)⟩;have br:(bt e v cs).toArray[off]?=some (aT e v r):=by simp[oc,h]
  simp only[part,Sem.run_bind,XD aa,Result.andThen_ok,ul,oy,br,Sem.run_pure]
theorem amk(aj:fk e v env bL aX a)(ad:fu v n env){t:aO}{x:bf}{f:Nat}(av:o.op=.field t x f)(h:aah t x f P env=some r):ml P e v n a w o r:=by
 obtain⟨⟨q,u⟩,aa,h⟩:=bC h;obtain⟨y,ab,h⟩:=bC h;obtain⟨cZ,fl,i,k1,k2,bx,cl,eG,kB⟩:=S1 aa;have fZ:=jg ad ab;unfold S5 at h;split at h
 ·obtain⟨pZ,CW⟩:=ZY (e:=e) (v:=v) (w:=w) fZ h;refine⟨?_,CW⟩;subst bx;subst cl;simp only[execOp,av,dC aj ab,aT,Sem.run_bind,Instr.field,run_underlying k1,Result.andThen_ok,k2,asAgg,Sem.run_pure,pZ]
 ·cases h
theorem Nv{t:aO}{q:eu}{u:aO}(h:rowOf P t=some (q,u)):(∃len,q=some len∧P.underlying t=some (.array len u))∨(q=none∧P.underlying t=some (.slice u)):=by
 unfold rowOf at h;split at h
 ·simp only[eb,fs] at h;obtain⟨rfl,rfl⟩:=h;exact .inl ⟨_,I,by assumption⟩
 ·simp only[eb,fs] at h;obtain⟨rfl,rfl⟩:=h;exact .inr ⟨I,by assumption⟩
 ·cases h
theorem agT(aj:fk e v env bL aX a)(ad:fu v n env){t:aO}{x y:bf}(av:o.op=.indexAddr t x y)(h:aaE t x y P env=some r):ml P e v n a w o r:=by
 obtain⟨⟨q,u⟩,aa,g1⟩:=bC h;obtain⟨m,ab,g2⟩:=bC g1;obtain⟨Hg,an,g3⟩:=bC g2;obtain⟨ak2,aK,g4⟩:=bC g3;clear h g1 g2 g3;have h:=g4;clear g4;have fZ:=jg ad an;unfold TG at h;split at h
 ·rename_i k j;rcases Nv aa with⟨len,rfl,bb⟩|⟨rfl,bb⟩
  ·simp only at h;unfold aaS at h;split at h
   ·rename_i id off p;cases ag:Nat.blt p len with
    |false=>rw[ag] at h;cases h
    |true=>
     rw[ag,cp] at h;injection h with h;subst h;have ca:=ez.1 ag;refine⟨?_,fZ⟩;have ax:(0:Int)≤Int.ofNat p∧Int.ofNat p<(len:Int):=⟨u5 p,by exact JH.2 ca⟩;simp only[execOp,av,dC aj an,dC aj aK,aT,Instr.indexAt,Sem.run_bind,asIntOf,Sem.run_pure,Result.andThen_ok,run_underlying bb,Instr.sureAddr,aD ax,qy ab,lB];rfl
   ·cases h
  ·simp only at h;unfold acA at h;split at h
   ·rename_i id off len cap p;cases ag:Nat.blt p len with
    |false=>rw[ag] at h;cases h
    |true=>
     rw[ag,cp] at h;injection h with h;subst h;have ca:=ez.1 ag;refine⟨?_,fZ⟩;have ax:(0:Int)≤Int.ofNat p∧Int.ofNat p<(len:Int):=⟨u5 p,by exact JH.2 ca⟩;simp only[execOp,av,dC aj an,dC aj aK,aT,Instr.indexAt,Sem.run_bind,asIntOf,Sem.run_pure,Result.andThen_ok,run_underlying bb,aD ax,qy ab,lB];rfl
   ·rename_i id z lo len p;cases ag:(Nat.beq z m&&Nat.blt p len) with
    |false=>rw[ag] at h;cases h
    |true=>
     rw[ag,cp] at h;rw[b7] at ag;obtain rfl:=dI ag.1;injection h with h;subst h;have ca:=ez.1 ag.2;refine⟨?_,by simp only[Go.In.bM,b7] at fZ;exact fZ.1⟩;have ax:(0:Int)≤Int.ofNat p∧Int.ofNat p<(len:Int):=⟨u5 p,by exact JH.2 ca⟩;simp only[execOp,av,dC aj an,dC aj aK,aT,Instr.indexAt,Sem.run_bind,asIntOf,Sem.run_pure,Result.andThen_ok,run_underlying bb,aD ax,qy ab,lB];rfl
   ·cases h
 ·cases h
end
section
variable{e:dB}{v a1:cu}{n bL:Nat}{env:bp}{aX:List fj}{a:Act}{P:a8}{w:ao}{o:Oper}{r:ai}
theorem w2{d:Nat}{x:ai}{q:eu}(h:l4 d (some x)=some q):∃(k:cg) (p:Nat),x=.i k (.ofNat p)∧q=some p∧p≤d:=by
 unfold l4 at h;split at h
 ·cases ‹some x=none›
 ·rename_i k p af;injection af with af;cases ag:Nat.ble p d with
  |false=>rw[ag] at h;cases h
  |true=>rw[ag] at h;injection h with h;exact⟨k,p,af,h.symm,ho ag⟩
 ·cases h
theorem wT{d:Nat}{q:eu}(h:l4 d none=some q):q=none:=by unfold l4 at h;injection h with h;exact h.symm
theorem X7{d GF:Nat}(aW:d≤GF){x:Option ai}{q:eu}(h:l4 d x=some q):l4 GF x=some q:=by
 cases x with
 |none=>rw[wT h];rfl
 |some x=>
  obtain⟨k,p,rfl,rfl,aG⟩:=w2 h;show(bif Nat.ble p GF then some (some p) else none)=_;rw[rV (sW aG aW)];rfl
theorem Iy{d:Nat}{x:Option ai}{p:Nat}(h:l4 d x=some (some p)):p≤d:=by
 cases x with
 |none=>cases wT h
 |some x=>obtain⟨k,OZ,rfl,aM,aG⟩:=w2 h;injection aM with aM;omega
theorem uJ{d p:Nat}(k:cg)(aG:p≤d)(code:BoundsCode):(Instr.sliceBound (.int k (.ofNat p)) d code).run P w=.ok p w:=by
 have ax:(0:Int)≤Int.ofNat p∧Int.ofNat p≤(d:Int):=⟨u5 p,by exact Int.ofNat_le.2 aG⟩;simp only[Instr.sliceBound,asIntOf,Sem.run_bind,Sem.run_pure,Result.andThen_ok,aD ax];rfl
theorem QM{len cap:Nat}{lo hi mx:Option ai}{m h l:eu}(hm:l4 cap mx=some m)(c6:l4 (m.getD cap) hi=some h)(kG:(m.isSome&&h.isNone)=false)(bc:l4 (h.getD len) lo=some l):
  (Instr.sliceBounds true len cap (lo.map (aT e v)) (hi.map (aT e v)) (mx.map (aT e v))).run P w=.ok (l.getD 0,h.getD len,m.getD cap) w:=by
 cases mx with
 |none=>
  obtain rfl:=wT hm;cases hi with
  |none=>
   obtain rfl:=wT c6;cases lo with
   |none=>obtain rfl:=wT bc;rfl
   |some x=>
    obtain⟨k,p,rfl,rfl,aG⟩:=w2 bc;simp only[Instr.sliceBounds,pB,gv,aT,Sem.run_bind,Sem.run_pure,Result.andThen_ok,sj,Option.isSome_none,ul,oy,uJ k (show p≤len from aG)];try rfl
  |some y=>
   obtain⟨k2,ay,rfl,rfl,fF⟩:=w2 c6;cases lo with
   |none=>
    obtain rfl:=wT bc;simp only[Instr.sliceBounds,pB,gv,aT,Sem.run_bind,Sem.run_pure,Result.andThen_ok,sj,kg,jU,uJ k2 (show ay≤cap from fF)];try rfl
   |some x=>
    obtain⟨k,p,rfl,rfl,aG⟩:=w2 bc;simp only[Instr.sliceBounds,pB,gv,aT,Sem.run_bind,Sem.run_pure,Result.andThen_ok,sj,kg,jU,uJ k2 (show ay≤cap from fF),Option.isSome_none,ul,oy,uJ k (show p≤ay from aG)]
 |some z=>
  obtain⟨bx,uZ,rfl,rfl,aco⟩:=w2 hm;cases hi with
  |none=>obtain rfl:=wT c6;cases kG
  |some y=>
   obtain⟨k2,ay,rfl,rfl,fF⟩:=w2 c6;cases lo with
   |none=>
    obtain rfl:=wT bc;simp only[Instr.sliceBounds,pB,gv,aT,Sem.run_bind,Sem.run_pure,Result.andThen_ok,sj,kg,jU,uJ bx aco,uJ k2 (show ay≤uZ from fF)];try rfl
   |some x=>
    obtain⟨k,p,rfl,rfl,aG⟩:=w2 bc;simp only[Instr.sliceBounds,pB,gv,aT,Sem.run_bind,Sem.run_pure,Result.andThen_ok,sj,kg,jU,uJ bx aco,uJ k2 (show ay≤uZ from fF),Option.isSome_some,uJ k (show p≤ay from aG)]
theorem QE{t el:aO}{sz:Nat}(bb:P.underlying t=some (.slice el))(aq:ko P el=some sz){A:aN}{len cap l h m:Nat}{lo hi mx:Option aV}(ad:(Instr.sliceBounds true len cap lo hi mx).run P w=.ok (l,h,m) w):
  (Instr.sliceAt t (.slice A len cap) lo hi mx).run P w=.ok (.slice (if m=l then A else A.map (·.add (l*sz))) (h- l) (m- l)) w:=by
 simp only[Instr.sliceAt,Instr.slice,Sem.run_bind,run_underlying bb,Result.andThen_ok,ad,qy aq,Sem.run_pure]
theorem asN{t el:aO}{sz:Nat}(bb:P.underlying t=some (.slice el))(aq:ko P el=some sz){x:ai}{lo hi mx:Option ai}(fZ:bM v n x=true)(aH:Rc sz x lo hi mx=some r):
  (Instr.sliceAt t (aT e v x) (lo.map (aT e v)) (hi.map (aT e v)) (mx.map (aT e v))).run P w=.ok (aT e v r) w∧bM v n r=true:=by
 unfold Rc at aH;split at aH
 ·obtain⟨m,aa,g1⟩:=bC aH;obtain⟨h,ab,g2⟩:=bC g1;clear aH g1;cases kG:(m.isSome&&h.isNone) with
  |true=>rw[kG] at g2;cases g2
  |false=>
   rw[kG,eO] at g2;obtain⟨l,an,g3⟩:=dH g2;clear g2;subst g3;have K0:m.getD 0=0:=by cases m with
    |none=>rfl
    |some p=>have:=Iy aa;show p=0;omega
   rw[K0] at ab;have OI:h.getD 0=0:=by cases h with
    |none=>rfl
    |some p=>have:=Iy ab;show p=0;omega
   rw[OI] at an;have gJ:l.getD 0=0:=by cases l with
    |none=>rfl
    |some p=>have:=Iy an;show p=0;omega
   refine⟨?_,I⟩;have bV:=QM (e:=e) (v:=v) (P:=P) (w:=w) (len:=0) (cap:=0) (lo:=lo) (hi:=hi) (mx:=mx) (m:=m) (h:=h) (l:=l) aa (by rw[K0];exact ab) kG (by rw[OI];exact an);rw[show aT e v ai.ck=.slice none 0 0 from rfl,QE bb aq bV,K0,OI,gJ];rfl
 ·rename_i id off len cap;obtain⟨m,aa,g1⟩:=bC aH;obtain⟨h,ab,g2⟩:=bC g1;clear aH g1;cases kG:(m.isSome&&h.isNone) with
  |true=>rw[kG] at g2;cases g2
  |false=>
   rw[kG,eO] at g2;obtain⟨l,an,g3⟩:=bC g2;clear g2;simp only at g3;cases ag:(Nat.ble (l.getD 0) (h.getD len)&&Nat.ble (h.getD len) (m.getD cap)) with
   |false=>rw[ag] at g3;cases g3
   |true=>
    rw[ag,cp] at g3;injection g3 with g3;subst g3;refine⟨?_,fZ⟩;rw[show aT e v (ai.s id off len cap)=.slice (some ⟨v.b4 id,off,none⟩) len cap from rfl,QE bb aq (QM aa ab kG an)];simp only[aT];congr 2;by_cases ic:m.getD cap=l.getD 0
    ·rw[aD ic,ic,mb,cp]
    ·rw[az ic,iT ic,eO,gv,lB]
 ·rename_i id z b len;cases aL:Nat.beq z sz with
  |false=>rw[aL] at aH;cases aH
  |true=>
   rw[aL,cp] at aH;obtain rfl:=dI aL;obtain⟨m,aa,g1⟩:=bC aH;obtain⟨h,ab,g2⟩:=bC g1;clear aH g1;have AC:=fZ;simp only[Go.In.bM,b7] at AC;have ah:b+len≤v.gN id:=ho AC.2;have ow:len≤v.gN id- b:=by omega
   cases kG:(m.isSome&&h.isNone) with
   |true=>rw[kG] at g2;cases g2
   |false=>
    rw[kG,eO] at g2;obtain⟨l,an,g3⟩:=bC g2;clear g2;have bV:=QM (e:=e) (v:=v) (P:=P) (w:=w) (X7 ow aa) (len:=len) (hi:=hi) (h:=h) (by cases m with
     |none=>exact X7 ow ab
     |some p=>exact ab) kG an
    have cy:=QE bb aq (A:=some ⟨v.b4 id,b*z,none⟩) bV;rw[show aT e v (ai.aP id z b len)=.slice (some ⟨v.b4 id,b*z,none⟩) len (v.gN id- b) from rfl,cy];cases m with
    |some fN=>
     simp only at g3;cases ag:(Nat.ble (l.getD 0) (h.getD len)&&Nat.ble (h.getD len) fN) with
     |false=>rw[ag] at g3;cases g3
     |true=>
      rw[ag,cp] at g3;injection g3 with g3;subst g3;refine⟨?_,AC.1⟩;simp only[aT,kg];congr 2;by_cases ic:fN=l.getD 0
      ·rw[aD ic,ic,mb,cp]
      ·rw[az ic,iT ic,eO,gv,lB]
    |none=>
     have c6:h.getD len≤len:=by cases h with
      |none=>exact cq _
      |some p=>exact Iy ab
     simp only at g3;by_cases yH:l.getD 0=0
     ·rw[yH,mb,cp] at g3;injection g3 with g3;subst g3;refine⟨?_,by simp only[Go.In.bM,b7];exact⟨AC.1,rV (by omega)⟩⟩;simp only[aT,sj,yH,nk];congr 2;split
      ·rfl
      ·simp only[gv,lB,jc,wW]
     ·rw[iT yH,eO] at g3;cases ag:(Nat.blt (l.getD 0) len&&Nat.ble (l.getD 0) (h.getD len)) with
      |true=>
       rw[ag,cp] at g3;injection g3 with g3;subst g3;rw[b7] at ag;have ca:=ez.1 ag.1;have hle:=ho ag.2;refine⟨?_,by simp only[Go.In.bM,b7];exact⟨AC.1,rV (by omega)⟩⟩;simp only[aT,sj];rw[az (by omega),gv,lB,←Ey,Nat.sub_sub]
      |false=>
       rw[ag,eO] at g3;cases cR:(Nat.beq (l.getD 0) len&&Nat.beq (h.getD len) len) with
       |false=>rw[cR] at g3;cases g3
       |true=>
        rw[cR,cp] at g3;injection g3 with g3;subst g3;rw[b7] at cR;have bu:=dI cR.1;have bD:=dI cR.2;refine⟨?_,AC.1⟩;simp only[aT,sj,bu,bD,rL,Nat.sub_sub,Cg];by_cases ic:v.gN id- b=len
        ·rw[aD ic,aD ic]
        ·rw[az ic,az ic,gv,lB,←Ey]
 ·cases aH
end
section
variable{e:dB}{v a1:cu}{n bL:Nat}{env:bp}{aX:List fj}{a:Act}{P:a8}{w:ao}{o:Oper}{r:ai}
theorem Q5(aj:fk e v env bL aX a){x:Option bf}{y:Option ai}(h:Jr env x=some y):x.map a.eval=y.map (aT e v):=by
 cases x with
 |none=>injection h with h;subst h;rfl
 |some x=>
  obtain⟨q,aa,rfl⟩:=dH h;simp only[gv,dC aj aa]
theorem aiH(aj:fk e v env bL aX a)(ad:fu v n env){t:aO}{x:bf}{lo hi mx:Option bf}(av:o.op=.slice t x lo hi mx)(h:Un t x lo hi mx P env=some r):ml P e v n a w o r:=by
 obtain⟨⟨q,u⟩,aa,g1⟩:=bC h;obtain⟨m,ab,g2⟩:=bC g1;obtain⟨Hg,an,g3⟩:=bC g2;obtain⟨ahg,aK,g4⟩:=bC g3;obtain⟨amT,bo,g5⟩:=bC g4;obtain⟨atL,cd,g6⟩:=bC g5;clear h g1 g2 g3 g4 g5;have fZ:=jg ad an;have hex:∀y,(Instr.sliceAt t (aT e v Hg) (ahg.map (aT e v)) (amT.map (aT e v)) (atL.map (aT e v))).run P w=.ok y w→(execOp a.eval o).run P w=.ok (.value y) w:=fun y aF=>by
  simp only[execOp,av,dC aj an,Q5 aj aK,Q5 aj bo,Q5 aj cd];rw[Sem.run_bind,aF];rfl
 unfold V9 at g6;rcases Nv aa with⟨len,rfl,bb⟩|⟨rfl,bb⟩
 ·simp only at g6;split at g6
  ·injection g6 with g6;subst g6;refine⟨hex _ ?_,fZ⟩;simp only[Instr.sliceAt,Sem.run_bind,run_underlying bb,Result.andThen_ok,aT,Instr.sureAddr,Sem.run_pure,pB,Instr.sliceBounds,qy ab,jc,nk];congr 3;split
   ·rfl
   ·rw[lB];rfl
  ·cases g6
 ·obtain⟨k1,k2⟩:=asN (e:=e) (v:=v) (n:=n) (P:=P) (w:=w) bb ab fZ g6;exact⟨hex _ k1,k2⟩
theorem agX(aj:fk e v env bL aX a)(ad:fu v n env){t:aO}{x y:bf}(av:o.op=.index t x y)(h:aat t x y P env=some r):ml P e v n a w o r:=by
 obtain⟨Hg,an,g1⟩:=bC h;obtain⟨ak2,aK,g2⟩:=bC g1;clear h g1;have fZ:=jg ad an;unfold Zy at g2;split at g2
 ·rename_i k q;split at g2
  ·rename_i cs;obtain⟨⟨av6,u⟩,aa,g3⟩:=bC g2;rcases Nv aa with⟨len,rfl,bb⟩|⟨rfl,bb⟩
   ·simp only at g3;cases ag:Nat.blt q len with
    |false=>rw[ag] at g3;cases g3
    |true=>
     rw[ag,cp] at g3;obtain⟨m,bo,g4⟩:=bC g3;obtain⟨k1,k2⟩:=ZY (e:=e) (v:=v) (w:=w) fZ g4;refine⟨?_,k2⟩;have ax:(0:Int)≤Int.ofNat q∧Int.ofNat q<(len:Int):=⟨u5 q,by exact JH.2 (ez.1 ag)⟩;simp only[execOp,av,dC aj an,dC aj aK,aT,Instr.index,Sem.run_bind,asIntOf,Sem.run_pure,Result.andThen_ok,run_underlying bb,aD ax,qy bo];have adl:=k1;simp only[show(Int.ofNat q).toNat=q from rfl];rw[adl];rfl
   ·simp only at g3;cases g3
  ·cases g2
 ·cases g2
theorem w1{t:aO}{z:ai}(h:r3 P t=some z):∃i y,P.info? t=some i∧i.zero=some y∧Hw y=some z:=by
 unfold r3 at h;split at h
 ·rename_i i hi;split at h
  ·rename_i y aF;exact⟨i,y,hi,aF,h⟩
  ·cases h
 ·cases h
theorem al6{t:aO}{z:ai}(h:r3 P t=some z):(zeroValue t).run P w=.ok (aT e v z) w∧bM v n z=true:=by
 obtain⟨i,y,aa,ab,an⟩:=w1 h;obtain⟨k1,k2⟩:=xr (e:=e) (v:=v) (n:=n) an;exact⟨by rw[k1];exact BQ aa ab,k2⟩
theorem aqv(aj:fk e v env bL aX a)(ad:fu v n env){x:bf}{iJ at_:aO}{ok:Bool}(av:o.op=.typeAssert x iJ at_ ok)(h:Xh x iJ at_ ok P env=some r):ml P e v n a w o r:=by
 obtain⟨Hg,an,g1⟩:=bC h;clear h;have fZ:=jg ad an;unfold W3 at g1;split at g1
 ·rename_i t y;cases ag:Ae P at_ with
  |false=>rw[ag] at g1;cases g1
  |true=>
   rw[ag,cp] at g1;obtain⟨d,aW,aQ⟩:=TQ ag;have na:∀(K:Sem aV),(∀D,D=d→True)→True:=fun _ _=>trivial;by_cases oA:t=at_
   ·subst oA;rw[mb,cp] at g1;injection g1 with g1;subst g1;cases ok with
    |true=>
     refine⟨?_,by show(bM v n y&&(bM v n (.b true)&&true))=true;rw[show bM v n y=true from fZ];rfl⟩;simp only[execOp,av,dC aj an,aT,Instr.typeAssert,Sem.run_bind,run_underlying aW,Result.andThen_ok];cases d<;>first|exact absurd rfl (aQ _)|(simp only[jU,Sem.run_pure,Result.andThen_ok];rfl)
    |false=>
     refine⟨?_,fZ⟩;simp only[execOp,av,dC aj an,aT,Instr.typeAssert,Sem.run_bind,run_underlying aW,Result.andThen_ok];cases d<;>first|exact absurd rfl (aQ _)|(simp only[jU,Sem.run_pure,Result.andThen_ok];rfl)
   ·rw[iT oA,eO] at g1;cases ok with
    |false=>cases g1
    |true=>
     rw[cp] at g1;obtain⟨z,bo,rfl⟩:=dH g1;obtain⟨k1,k2⟩:=al6 (e:=e) (v:=v) (n:=n) (w:=w) bo;refine⟨?_,by show(bM v n z&&(bM v n (.b false)&&true))=true;rw[k2];rfl⟩;simp only[execOp,av,dC aj an,aT,Instr.typeAssert,Sem.run_bind,run_underlying aW,Result.andThen_ok];cases d<;>first|exact absurd rfl (aQ _)|(simp only[az oA,jU,Sem.run_bind,k1,Sem.run_pure,Result.andThen_ok];rfl)
 ·cases g1
end
section
variable{e:dB}{v a1:cu}{n bL:Nat}{env:bp}{aX:List fj}{a:Act}{P:a8}{w:ao}{o:Oper}{r:ai}
theorem ub(x:ai):(aT e v x).cells=(bt e v x.cells).toArray:=by cases x<;>rfl
theorem yJ{x:ai}(h:bM v n x=true):cA v n x.cells=true:=by
 cases x<;>first|exact h|(simp only[ai.cells,cA,Fg];exact h)
theorem DP:∀{cs dW:List ai} {off:Nat},over cs off []=some dW→dW=cs∧off≤cs.length
 |cs,dW,0,h=>by cases cs<;>(simp only[over,eb] at h;subst h;exact⟨I,dg _⟩)
 |[],_,off+1,h=>by simp[over] at h
 |x::r,dW,off+1,h=>by
  simp only[over] at h;obtain⟨q,aa,rfl⟩:=dH h;obtain⟨rfl,ab⟩:=DP aa;exact⟨I,by simp only[iG];omega⟩
theorem D8:∀{cs dW:List ai} {off:Nat} {x:ai} {vs:List ai},over cs off (x::vs)=some dW→off<cs.length∧over (cs.set off x) (off+1) vs=some dW
 |[],_,0,_,_,h=>by simp[over] at h
 |y::r,dW,0,x,vs,h=>by
  simp only[over] at h;obtain⟨q,aa,rfl⟩:=dH h;refine⟨by simp,?_⟩;simp only[wD,over,aa,gv]
 |[],_,off+1,_,_,h=>by simp[over] at h
 |y::r,dW,off+1,x,vs,h=>by
  simp only[over] at h;obtain⟨q,aa,rfl⟩:=dH h;obtain⟨ab,an⟩:=D8 aa;refine⟨by simp only[iG];omega,?_⟩;simp only[DO,over,an,gv]
theorem XL:∀{vs cs dW:List ai} {off:Nat},over cs off vs=some dW→dW.length=cs.length∧off+vs.length≤cs.length
 |[],cs,dW,off,h=>by obtain⟨rfl,ab⟩:=DP h;exact⟨I,by simpa using ab⟩
 |x::vs,cs,dW,off,h=>by
  obtain⟨aa,ab⟩:=D8 h;obtain⟨an,aK⟩:=XL ab;rw[m9] at an aK;exact⟨an,by simp only[iG];omega⟩
theorem afr{l:List ai}{x:ai}(bc:cA v n l=true)(af:bM v n x=true)(i:Nat):cA v n (l.set i x)=true:=
 hy.2 (fun y aF=>by
  rcases u7 aF with h|h
  ·exact hy.1 bc y h
  ·rw[h];exact af)
theorem QC:∀{vs cs dW:List ai} {off:Nat},over cs off vs=some dW→cA v n cs=true→cA v n vs=true→cA v n dW=true
 |[],_,_,_,h,ag,_=>by obtain⟨rfl,_⟩:=DP h;exact ag
 |x::vs,_,_,_,h,ag,br=>by
  simp only[cA,b7] at br;exact QC (D8 h).2 (afr ag br.1 _) br.2
theorem Od(l:List ai)(i:Nat)(x:ai):bt e v (l.set i x)=(bt e v l).set i (aT e v x):=by simp only[vZ,List.map_set]
theorem Ue:∀{vs cs dW:List ai} {off k:Nat},over cs (off+k) vs=some dW→
  ((bt e v vs).zipIdx k).foldl (fun(c:cJ) (q:aV×Nat)=>c.setIfInBounds (off+q.2) q.1) (bt e v cs).toArray=(bt e v dW).toArray
 |[],cs,dW,off,k,h=>by obtain⟨rfl,_⟩:=DP h;rfl
 |x::vs,cs,dW,off,k,h=>by
  obtain⟨_,ab⟩:=D8 h;simp only[bt,List.zipIdx_cons,rc,r4];rw[←Od];exact Ue (off:=off) (k:=k+1) ab
def zk(e:dB)(v:cu)(q:Nat×ai):Nat×aV:=(q.1,aT e v q.2)
theorem Lj{place:Nat→Option (Nat×Nat)}:∀{l:List (Nat×ai)} {cs dW:List ai},tj place l cs=some dW→Instr.fill place (bt e v cs).toArray (l.map (zk e v))=some (bt e v dW).toArray
 |[],cs,dW,h=>by simp only[tj,eb] at h;subst h;rfl
 |(i,x)::r,cs,dW,h=>by
  unfold tj at h;simp only[hW,zk];unfold Instr.fill;cases aG:place i with
  |none=>rw[aG] at h;cases h
  |some q=>
   obtain⟨off,sz⟩:=q;rw[aG] at h;simp only at h⊢;cases ag:Nat.beq x.cells.length sz with
   |false=>rw[ag] at h;cases h
   |true=>
    rw[ag,cp] at h;have fU:=dI ag;obtain⟨cs2,aa,ab⟩:=bC h;obtain⟨k1,k2⟩:=XL aa;have bu:(aT e v x).cells.size=sz:=by rw[ub];simp[kf,fU]
    have bD:¬(off+sz>(bt e v cs).toArray.size):=by simp[kf];omega
    rw[bu];simp only[ne_eq,not_true_eq_false,decide_false,LV,vv,az bD];have an:=Ue (e:=e) (v:=v) (off:=off) (k:=0) aa;rw[ub];have aK:(bt e v x.cells).toArray.zipIdx.foldl (fun(cs:cJ) (q:aV×Nat)=>cs.setIfInBounds (off+q.2) q.1) (bt e v cs).toArray=(bt e v cs2).toArray:=by
     rw[←P0,Array.toList_zipIdx];exact an
    have bo:=Lj (l:=r) ab;rw[←aK] at bo;exact bo
theorem Mv{place:Nat→Option (Nat×Nat)}:∀{l:List (Nat×ai)} {cs dW:List ai},tj place l cs=some dW→cA v n cs=true→(∀q∈l,bM v n q.2=true)→cA v n dW=true
 |[],cs,dW,h,ag,_=>by simp only[tj,eb] at h;subst h;exact ag
 |(i,x)::r,cs,dW,h,ag,bc=>by
  unfold tj at h;cases aG:place i with
  |none=>rw[aG] at h;cases h
  |some q=>
   obtain⟨off,sz⟩:=q;rw[aG] at h;simp only at h;cases ad:Nat.beq x.cells.length sz with
   |false=>rw[ad] at h;cases h
   |true=>
    rw[ad,cp] at h;obtain⟨cs2,aa,ab⟩:=bC h;exact Mv ab (QC aa ag (yJ (bc (i,x) (by simp)))) (fun q aM=>bc q (by simp[aM]))
theorem PO(aj:fk e v env bL aX a)(ad:fu v n env):∀{ps:List (Nat×bf)} {l:List (Nat×ai)},parts env ps=some l→ps.map (fun q=>(q.1,a.eval q.2))=l.map (zk e v)∧∀q∈l,bM v n q.2=true
 |[],l,h=>by simp only[parts,eb] at h;subst h;exact⟨I,by simp⟩
 |(i,x)::r,l,h=>by
  simp only[parts] at h;obtain⟨y,aa,g1⟩:=bC h;obtain⟨q,ab,rfl⟩:=dH g1;obtain⟨k1,k2⟩:=PO aj ad ab;refine⟨by simp only[hW,k1,dC aj aa,zk],fun z aL=>?_⟩;rcases ei.1 aL with rfl|aL
  ·exact jg ad aa
  ·exact k2 z aL
theorem asY(aj:fk e v env bL aX a)(ad:fu v n env){t:aO}{ps:Array (Nat×bf)}(av:o.op=.build t ps)(h:Wf t ps P env=some r):ml P e v n a w o r:=by
 obtain⟨pl,aa,g1⟩:=bC h;obtain⟨l,ab,g2⟩:=bC g1;obtain⟨z,an,g3⟩:=bC g2;obtain⟨cs,aK,rfl⟩:=dH g3;obtain⟨i,y,k1,k2,bx⟩:=w1 an;obtain⟨cl,eG⟩:=xr (e:=e) (v:=v) (n:=n) bx;obtain⟨kB,pZ⟩:=PO aj ad ab;refine⟨?_,Mv aK (yJ eG) pZ⟩;have aI:=Lj (e:=e) (v:=v) aK;have aL:(bt e v z.cells).toArray=y.cells:=by rw[←ub,cl]
 rw[aL] at aI;have bu:(ps.map fun(q:Nat×bf)=>(q.1,a.eval q.2)).toList=l.map (zk e v):=by rw[oV];exact kB
 have bV:P.built t (l.map (zk e v))=some (bt e v cs).toArray:=by
  unfold T8 at aa;unfold Program.built;split at aa
  ·rename_i cZ qN;obtain⟨q,bo,rfl⟩:=dH aa;simp only[k1,qN,k2,bo];exact aI
  ·rename_i len el qN;obtain⟨j,bo,rfl⟩:=dH aa;simp only[k1,qN,k2,bo];exact aI
  ·cases aa
 have bD:=run_build (P:=P) w t (ps.map fun(q:Nat×bf)=>(q.1,a.eval q.2)) _ (by rw[bu];exact bV);simp only[execOp,av,Sem.run_bind,bD,Result.andThen_ok,Sem.run_pure,aT]
end
section
variable{e:dB}{v a1:cu}{n bL:Nat}{env:bp}{aX:List fj}{a:Act}{P:a8}{w:ao}{o:Oper}{r:ai}
theorem Pz{x:ai}{m:Nat}(h:tb x=some m):∃A c,aT e v x=.slice A m c:=by
 unfold tb at h;split at h<;>first|(cases h;done)|(injection h with h;subst h;exact⟨_,_,I⟩)
theorem ahD{t E:aO}(bb:P.underlying t=some (.slice E)){A:aN}{m c:Nat}{ty:aO}:(Builtin.len_ #[t] ty #[.slice A m c]).run P w=.ok (.int .i64 m) w:=by
 simp[Builtin.len_,run_underlying bb,goInt]
theorem W4{t E:aO}(bb:P.underlying t=some (.slice E)){A:aN}{m c:Nat}{ty:aO}:(Builtin.cap_ #[t] ty #[.slice A m c]).run P w=.ok (.int .i64 c) w:=by
 simp[Builtin.cap_,run_underlying bb,goInt]
theorem SW{c:Call}{b:Builtin}(av:o.op=.call c)(ag:c.callee=.builtin b)(cs:Array Bool)(k8:cs=c.args.map fun|.const _=>true|_=>false){x:Result Next}(h:(builtin b c.argTypes o.type cs (c.args.map a.eval)).run P w=x):(execOp a.eval o).run P w=x:=by
 subst k8;simp only[execOp,av,resolve,ag,Sem.run_bind,Sem.run_pure,Result.andThen_ok,invoke];exact h
theorem Gy{α:Type}{x:Array α}{l:List α}(h:x.toList=l):x=l.toArray:=by rw[←h]
theorem atO(aj:fk e v env bL aX a)(ad:fu v n env){c:Call}(av:o.op=.call c)(h:Py c P env=some r):ml P e v n a w o r:=by
 unfold Py at h;split at h
 ·rename_i b hO;have key:=fun{x:Result Next}=>SW (P:=P) (w:=w) (a:=a) av hO _ rfl (x:=x);generalize RB:c.argTypes.toList=eD at h;generalize has:c.args.toList=dz at h;have Nt:=Gy RB;have Lg:=Gy has;rw[Lg,Nt] at key;cases b<;>first|(cases h;done)|skip
  ·-- cap
   change Lb dz eD P env=some r at h;unfold Lb at h;split at h
   ·rename_i x t;obtain⟨E,aa,g1⟩:=bC h;obtain⟨y,ab,g2⟩:=bC g1;have bb:=vA aa;refine⟨key ?_,?_⟩
    ·simp only[oH,hW,lm,dC aj ab,builtin];unfold s4 at g2;split at g2
     ·injection g2 with g2;subst g2;rw[Sem.run_bind];simp only[aT];rw[W4 bb];rfl
     ·injection g2 with g2;subst g2;rw[Sem.run_bind];simp only[aT];rw[W4 bb];rfl
     ·cases g2
    ·unfold s4 at g2;split at g2<;>first|(cases g2;done)|(injection g2 with g2;subst g2;rfl)
   ·cases h
  ·-- len
   change zI dz eD P env=some r at h;unfold zI at h;split at h
   ·rename_i x t;obtain⟨E,aa,g1⟩:=bC h;obtain⟨y,ab,g2⟩:=bC g1;obtain⟨m,an,rfl⟩:=dH g2;have bb:=vA aa;obtain⟨A,dp,aH⟩:=Pz (e:=e) (v:=v) an;refine⟨key ?_,I⟩;simp only[oH,hW,lm,dC aj ab,builtin,aH];rw[Sem.run_bind,ahD bb];rfl
   ·cases h
  ·-- max
   change Pc dz eD P env=some r at h;unfold Pc at h;split at h
   ·rename_i x y;obtain⟨p,aa,g1⟩:=bC h;obtain⟨q,ab,g2⟩:=bC g1;unfold W1 at g2;split at g2
    ·injection g2 with g2;subst g2;refine⟨key ?_,I⟩;simp only[oH,hW,lm,dC aj aa,dC aj ab,builtin,aT];rw[Sem.run_bind,ZV];rfl
    ·cases g2
   ·cases h
  ·-- min
   change MQ dz eD P env=some r at h;unfold MQ at h;split at h
   ·rename_i x y;obtain⟨p,aa,g1⟩:=bC h;obtain⟨q,ab,g2⟩:=bC g1;unfold Xq at g2;split at g2
    ·injection g2 with g2;subst g2;refine⟨key ?_,I⟩;simp only[oH,hW,lm,dC aj aa,dC aj ab,builtin,aT];rw[Sem.run_bind,Vn];rfl
    ·cases g2
   ·cases h
 ·cases h
theorem WB(gZ:ze e w)(bs:zo e)(aj:fk e v env bL aX a)(ad:fu v n env)(h:He o.op P env=some r):ml P e v n a w o r:=by
 cases av:o.op<;>rw[av] at h<;>first
  |(cases h;done)
  |exact UY aj ad (.inl av) h
  |exact UY aj ad (.inr av) h
  |exact ara aj ad av h
  |exact ark aj ad av h
  |exact akw gZ bs aj av h
  |exact atJ aj av h
  |exact ah2 aj av h
  |exact adN aj ad av h
  |exact ac3 aj ad av h
  |exact at6 aj ad av h
  |exact amk aj ad av h
  |exact agT aj ad av h
  |exact agX aj ad av h
  |exact aiH aj ad av h
  |exact arv aj ad av h
  |exact aqv aj ad av h
  |exact asY aj ad av h
  |exact atO aj ad av h
end
section
variable{e:dB}{v a1:cu}{n bL:Nat}{env:bp}{aX:List fj}{a:Act}{P:a8}{w:ao}{o:Oper}{r:ai}{F:Nat→Prop}{w₀:ao}{R:List bi}{σ bn:Mem}
theorem aaV{id:Nat}{cs:List ai}(ag:σ.zf id=some cs)(aq:au F w₀ (bP P e v σ.h::R) w){j:Nat}{x:ai}(ax:cs[j]?=some x):w.cell? ⟨v.b4 id,j,none⟩=some (aT e v x):=by
 obtain⟨q,aa,ab⟩:=bC ag;have an:=aq.o8 aa;cases q with
 |cells ty dW=>
  injection ab with ab;subst ab;exact an.cP (i:=0) I (by simp[oc,ax])
 |row ty sz m dW=>
  injection ab with ab;subst ab;have:=an.xy (q:=0) (j:=j) rfl (by rw[oc,ax];rfl);simpa[ob] using this
 |_=>cases ab
def wi(e:dB)(G:Nat→Option ai)(F:Nat→Prop)(w₀:ao):Prop:=∀g x,G g=some x→(∀v n,bM v n x=true)∧∀v w,au F w₀ [] w→w.cell? ⟨g,0,none⟩=some (aT e v x)
theorem Ie(hm:ct v σ){id:Nat}{cs:List ai}(ag:σ.zf id=some cs):cA v σ.n cs=true:=by
 obtain⟨q,aa,ab⟩:=bC ag;have an:=(hm id q aa).2;cases q<;>first|(cases ab;done)|(injection ab with ab;subst ab;exact an)
theorem vC{id off m:Nat}{cs:List ai}(h:σ.read id off m=some cs):∃all,σ.zf id=some all∧cs=(all.drop off).take m∧cs.length=m:=by
 obtain⟨all,aa,ab⟩:=bC h;obtain⟨k1,k2⟩:=WJ ab;exact⟨all,aa,k1,k2⟩
theorem Cl{id off m:Nat}{cs:List ai}(h:σ.read id off m=some cs)(aq:au F w₀ (bP P e v σ.h::R) w){j:Nat}{x:ai}(ax:cs[j]?=some x):w.cell? ⟨v.b4 id,off+j,none⟩=some (aT e v x):=by
 obtain⟨all,aa,rfl,an⟩:=vC h;refine aaV aa aq ?_;rw[mj] at ax;split at ax
 ·rw[wQ] at ax;exact ax
 ·cases ax
theorem C0(hm:ct v σ){id off m:Nat}{cs:List ai}(h:σ.read id off m=some cs):cA v σ.n cs=true:=by
 obtain⟨all,aa,rfl,an⟩:=vC h;exact hy.2 (fun x af=>hy.1 (Ie hm aa) x (xG (n9 af)))
theorem NE{G:Nat→Option ai}(b9:wi e G F w₀)(hm:ct v σ)(aq:au F w₀ (bP P e v σ.h::R) w){t:aO}{x:ai}(h:sn P G σ t x=some r):(Instr.loadAt t (aT e v x)).run P w=.ok (aT e v r) w∧bM v σ.n r=true:=by
 unfold sn at h;split at h
 ·rename_i id off;obtain⟨b,aa,g1⟩:=bC h;obtain⟨m,ab,g2⟩:=bC g1;cases b with
  |true=>
   rw[cp] at g2;obtain⟨cs,an,rfl⟩:=dH g2;obtain⟨_,_,_,hlen⟩:=vC an;refine⟨?_,C0 hm an⟩;obtain⟨d,aW,aH⟩:=zG aa;obtain⟨i,hi,fU⟩:=r0 ab;have cE:io P t m:=io.mk' aW aH (by rw[hi,gv,fU]);exact Hi (P:=P) (T:=t) (n:=m) (cs:=bt e v cs) (by rw[kf,hlen]) (fun j u ax=>by
    rw[oc] at ax;obtain⟨y,aF,rfl⟩:=dH ax;exact Cl an aq aF)
  |false=>
   rw[eO] at g2;cases ag:Nat.beq m 1 with
   |false=>rw[ag] at g2;cases g2
   |true=>
    rw[ag,cp] at g2;obtain rfl:=dI ag;obtain⟨cs,an,aK⟩:=bC g2;refine⟨?_,hy.1 (Ie hm an) r (iF aK)⟩;obtain⟨d,aW,aH⟩:=zG aa;obtain⟨i,hi,fU⟩:=r0 ab;have cE:One P t:=One.mk' aW aH (by rw[hi,gv,fU]);exact Cc (aaV an aq aK)
 ·rename_i g;obtain⟨b,aa,g1⟩:=bC h;obtain⟨m,ab,g2⟩:=bC g1;cases b with
  |true=>cases g2
  |false=>
   rw[eO] at g2;cases ag:Nat.beq m 1 with
   |false=>rw[ag] at g2;cases g2
   |true=>
    rw[ag,cp] at g2;obtain rfl:=dI ag;obtain⟨k1,k2⟩:=b9 g r g2;refine⟨?_,k1 v σ.n⟩;obtain⟨d,aW,aH⟩:=zG aa;obtain⟨i,hi,fU⟩:=r0 ab;have cE:One P t:=One.mk' aW aH (by rw[hi,gv,fU]);exact Cc (k2 v w aq.nothing)
 ·cases h
structure adI(P:a8)(e:dB)(F:Nat→Prop)(w₀:ao)(R:List bi)(v:cu)(σ:Mem)(x:Result Next)(r:ai)(bn:Mem)(a1:cu)(ar:ao):Prop where
 ext:ds σ.n v a1
 le:σ.n≤bn.n
 mem:ct a1 bn
 bM:bM a1 bn.n r=true
 bB:au F w₀ (bP P e a1 bn.h::R) ar
 run:x=.ok (.value (aT e a1 r)) ar∨(x=.ok .skip ar∧aT e a1 r=undef)
def cu.new(v:cu)(n g c:Nat):cu:=⟨fun i=>if i=n then g else v.b4 i,fun i=>if i=n then c else v.gN i⟩
theorem cu.y0(v:cu)(n g c:Nat):ds n v (v.new n g c):=fun i hi=>by simp[cu.new,Nat.ne_of_lt hi]
end
section
variable{e:dB}{v a1:cu}{n bL:Nat}{env:bp}{aX:List fj}{a:Act}{P:a8}{w:ao}{o:Oper}{r:ai}{F:Nat→Prop}{w₀:ao}{R:List bi}{σ bn:Mem}
def l3(P:a8)(e:dB)(F:Nat→Prop)(w₀:ao)(R:List bi)(v:cu)(σ:Mem)(x:Result Next)(r:ai)(bn:Mem):Prop:=∃a1 ar,adI P e F w₀ R v σ x r bn a1 ar
theorem yq(hm:ct v σ)(aq:au F w₀ (bP P e v σ.h::R) w)(ad:bM v σ.n r=true){x:Result Next}(af:x=.ok (.value (aT e v r)) w):l3 P e F w₀ R v σ x r σ:=⟨v,w,ds.refl _ _,Nat.le_refl _,hm,ad,aq,.inl af⟩
def uA(P:a8)(e:dB)(v:cu)(σ:Mem)(a:Act)(o:Oper)(r:ai)(bn:Mem):Prop:=∃q ob,bn=σ.new q∧(∀a1,ds σ.n v a1→qX a1 (σ.n+1) q)∧(∀a1,bM a1 (σ.n+1) r=true)∧(∀a1,ds σ.n v a1→dV P e a1 σ.n q=gQ (a1.b4 σ.n) ob)∧
 ∀a1 w,a1.b4 σ.n=w.heap.size→(execOp a.eval o).run P w=.ok (.value (aT e a1 r)) (w.alloc ob)
theorem aqj(g:Nat)(ty:aO)(cs:cJ):aE g ty cs=gQ g (.cells cs ty):=rfl
theorem Ip{ty:aO}{cs:List ai}(ad:cA v σ.n cs=true)(PA:∀a1,bM a1 (σ.n+1) r=true)(af:∀a1 w,a1.b4 σ.n=w.heap.size→(execOp a.eval o).run P w=.ok (.value (aT e a1 r)) (w.alloc (.cells (bt e v cs).toArray ty))):uA P e v σ a o r (σ.new (.cells ty cs)):=
 ⟨_,_,rfl,fun a1 br=>qA (k5 _) _ (qb br _ ad),PA,fun a1 br=>by simp only[dV,pU br cs ad,aqj],af⟩
theorem uA.ends(h:uA P e v σ a o r bn)(hm:ct v σ)(aq:au F w₀ (bP P e v σ.h::R) w):l3 P e F w₀ R v σ ((execOp a.eval o).run P w) r bn:=by
 obtain⟨q,ob,rfl,aa,ab,an,aK⟩:=h;have af:=cu.y0 v σ.n w.heap.size 0;have aH:(v.new σ.n w.heap.size 0).b4 σ.n=w.heap.size:=by simp[cu.new]
 refine⟨v.new σ.n w.heap.size 0,w.alloc ob,af,k5 _,ct.new (hm.ext af) (aa _ af),ab _,?_,.inl (aK _ w aH)⟩;have k1:=aq.EC ob;have bx:au F w₀ (bP P e v σ.h::gQ w.heap.size ob::R) _:=⟨k1.b6,k1.lt,Sep.swap k1.sep⟩;have eG:=au.si (fun w D ah=>w9 hm af ah) bx;have kB:au F w₀ (dV P e (v.new σ.n w.heap.size 0) σ.n q::bP P e (v.new σ.n w.heap.size 0) σ.h::R) (w.alloc ob):=by
  rw[an _ af,aH];exact⟨eG.b6,eG.lt,Sep.swap eG.sep⟩
 exact kB.uS hm.fresh
theorem aup{G:Nat→Option ai}(b9:wi e G F w₀)(aj:fk e v env bL aX a)(hm:ct v σ)(aq:au F w₀ (bP P e v σ.h::R) w){t:aO}{x:bf}(av:o.op=.load t x)(h:Z1 t x P G env σ=some (r,bn)):l3 P e F w₀ R v σ ((execOp a.eval o).run P w) r bn:=by
 obtain⟨y,aa,g1⟩:=bC h;obtain⟨z,ab,g2⟩:=dH g1;simp only[fs] at g2;obtain⟨rfl,rfl⟩:=g2;obtain⟨k1,k2⟩:=NE b9 hm aq ab;exact yq hm aq k2 (by simp only[execOp,av,dC aj aa];rw[Sem.run_bind,k1];rfl)
theorem V0{G:Nat→Option ai}{t:aO}(av:o.op=.alloc t)(h:Rk t P G env σ=some (r,bn)):uA P e v σ a o r bn:=by
 obtain⟨z,aa,g1⟩:=dH h;simp only[F6,fs] at g1;obtain⟨rfl,rfl⟩:=g1;obtain⟨i,y,k1,k2,bx⟩:=w1 aa;obtain⟨cl,eG⟩:=xr (e:=e) (v:=v) (n:=σ.n) bx;refine Ip (yJ eG) (fun a1=>ez.2 (k3 _)) (fun a1 w wE=>?_);rw[←ub,cl];simp only[execOp,av,Sem.run_bind,Instr.alloc,BQ k1 k2,newVar,newRow,run_newObj,Result.andThen_ok,Sem.run_pure,aT,wE];rfl
theorem Z6{G:Nat→Option ai}(hm:ct v σ)(aq:au F w₀ (bP P e v σ.h::R) w){t:aO}(av:o.op=.alloc t)(h:Rk t P G env σ=some (r,bn)):l3 P e F w₀ R v σ ((execOp a.eval o).run P w) r bn:=(V0 (G:=G) av h).ends hm aq
theorem Yj{G:Nat→Option ai}(aj:fk e v env bL aX a)(ad:fu v σ.n env){t:aO}{x:bf}(av:o.op=.box t x)(h:Kx t x P G env σ=some (r,bn)):uA P e v σ a o r bn:=by
 obtain⟨y,aa,g1⟩:=dH h;simp only[F6,fs] at g1;obtain⟨rfl,rfl⟩:=g1;refine Ip (yJ (jg ad aa)) (fun a1=>ez.2 (k3 _)) (fun a1 w wE=>?_);rw[←ub];simp only[execOp,av,dC aj aa,Sem.run_bind,Instr.box,newVar,newRow,run_newObj,Result.andThen_ok,Sem.run_pure,aT,wE];rfl
theorem anm{G:Nat→Option ai}(aj:fk e v env bL aX a)(ad:fu v σ.n env)(hm:ct v σ)(aq:au F w₀ (bP P e v σ.h::R) w){t:aO}{x:bf}(av:o.op=.box t x)(h:Kx t x P G env σ=some (r,bn)):l3 P e F w₀ R v σ ((execOp a.eval o).run P w) r bn:=(Yj (G:=G) aj ad av h).ends hm aq
theorem M9{z:List ai}(h:cA v n z=true):∀(m:Nat),cA v n (times z m)=true
 |0=>rfl
 |m+1=>hy.2 (fun x af=>by
  rcases hI.1 af with af|af
  ·exact hy.1 h x af
  ·exact hy.1 (M9 h m) x af)
theorem VR(z:List ai):∀(m:Nat),(times z m).length=m*z.length
 |0=>by simp[times]
 |m+1=>by simp only[times,ee,VR z m,v8];omega
theorem acR{z:List ai}(aL:z.length≠0):∀(m i:Nat),i<m*z.length→(times z m)[i]?=z[i%z.length]?
 |0,i,h=>by omega
 |m+1,i,h=>by
  simp only[times];by_cases hi:i<z.length
  ·rw[nE hi,ll hi]
  ·rw[mg (by omega),acR aL m (i- z.length) (by rw[v8] at h;omega)];congr 1;rw[Nat.mod_eq_sub_mod (by omega:i≥z.length)]
theorem Zr{zv:ai}{z:aV}(aL:aT e v zv=z)(aB:zv.cells.length≠0)(m:Nat):(Array.range (m*zv.cells.length)).map (fun i=>z.cells[i%z.cells.size]!)=(bt e v (times zv.cells m)).toArray:=by
 subst aL;apply mh;apply jB;intro i;rw[ub];simp only[oV,Array.toList_range,jj,oc,Ag,kf];by_cases hi:i<m*zv.cells.length
 ·rw[Pl hi,acR aB m i hi];have aa:i%zv.cells.length<zv.cells.length:=fV _ (by omega);simp only[gv,List.getElem!_toArray,List.getElem!_eq_getElem?_getD,oc,eF aa,kg]
 ·rw[iq (by simp;omega),iq (by rw[VR];omega)];rfl
end
section
variable{e:dB}{v a1:cu}{n bL:Nat}{env:bp}{aX:List fj}{a:Act}{P:a8}{w:ao}{o:Oper}{r:ai}{F:Nat→Prop}{w₀:ao}{R:List bi}{σ bn:Mem}
theorem X4{t:aO}{m:Nat}(h:JU P t=some m):∃i,P.info? t=some i∧i.bytes=m:=by
 unfold JU at h;split at h
 ·rename_i i hi;injection h with h;exact⟨i,hi,h⟩
 ·cases h
theorem Sp{G:Nat→Option ai}(aj:fk e v env bL aX a){t:aO}{x y:bf}(av:o.op=.makeSlice t x y)(h:NZ t x y P G env σ=some (r,bn)):uA P e v σ a o r bn:=by
 obtain⟨E,aa,g1⟩:=bC h;obtain⟨m,ab,g2⟩:=bC g1;obtain⟨by_,an,g3⟩:=bC g2;obtain⟨z,aK,g4⟩:=bC g3;obtain⟨l,bo,g5⟩:=bC g4;obtain⟨c,cd,g6⟩:=bC g5;clear h g1 g2 g3 g4 g5;unfold We at g6;split at g6
 ·rename_i k1 l k2 c;cases ag:((Nat.ble l c&&Nat.ble c 1000000)&&(Nat.ble by_ 1000&&(Nat.beq m z.cells.length&&Nat.blt 0 m))) with
  |false=>rw[ag] at g6;cases g6
  |true=>
   rw[ag,cp] at g6;simp only[b7] at ag;obtain⟨⟨dO,c2⟩,k0,qz,xx⟩:=ag;have dO:=ho dO;have c2:=ho c2;have k0:=ho k0;have qz:=dI qz;have xx:=ez.1 xx;simp only[eb,fs] at g6;obtain⟨rfl,rfl⟩:=g6;obtain⟨i,zv,bx,cl,eG⟩:=w1 aK;obtain⟨kB,pZ⟩:=xr (e:=e) (v:=v) (n:=σ.n) eG;obtain⟨i2,CW,Rs⟩:=r0 ab;obtain⟨i3,OK,M6⟩:=X4 an;obtain rfl:=er (bx.symm.trans CW);obtain rfl:=er (bx.symm.trans OK);refine Ip (M9 (yJ pZ) c) (fun a1=>ez.2 (k3 _)) (fun a1 w wE=>?_);have hmul:by_*c≤1000*1000000:=yg k0 c2;have hn:=run_make (P:=P) w t E i zv (vA aa) bx cl k1 k2 (Int.ofNat l) (Int.ofNat c) (u5 l) (by exact Int.ofNat_le.2 dO) (by
    rw[M6];show((by_:Int)*(c:Int))≤_;rw[←zA];omega) (by show(c:Int)≤_;omega)
   simp only[execOp,av,dC aj bo,dC aj cd,aT];rw[Sem.run_bind,hn];simp only[Result.andThen_ok,wE];have bu:madeCells zv.cells ((Int.ofNat c).toNat*i.size)=(bt e v (times z.cells c)).toArray:=by
    rw[Rs,qz];exact Zr kB (by omega) c
   rw[bu];rfl
 ·cases g6
theorem ann{G:Nat→Option ai}(aj:fk e v env bL aX a)(hm:ct v σ)(aq:au F w₀ (bP P e v σ.h::R) w){t:aO}{x y:bf}(av:o.op=.makeSlice t x y)(h:NZ t x y P G env σ=some (r,bn)):l3 P e F w₀ R v σ ((execOp a.eval o).run P w) r bn:=(Sp (G:=G) aj av h).ends hm aq
theorem XP{G:Nat→Option ai}(aj:fk e v env bL aX a)(ad:fu v σ.n env){t:aO}{len:Nat}{ps:Array (Nat×bf)}(av:o.op=.buildSlice t len ps)(h:Mj t len ps P G env σ=some (r,bn)):uA P e v σ a o r bn:=by
 obtain⟨E,aa,g1⟩:=bC h;obtain⟨m,ab,g2⟩:=bC g1;obtain⟨z,aK,g4⟩:=bC g2;obtain⟨l,bo,g5⟩:=bC g4;clear h g1 g2 g4;cases ag:(Nat.ble (len*m) 16777216&&(Nat.beq m z.cells.length&&Nat.blt 0 m)&&(Nat.blt 0 len||l.isEmpty)) with
 |false=>rw[ag] at g5;cases g5
 |true=>
  rw[ag,cp] at g5;simp only[b7] at ag;obtain⟨⟨dO,qz,xx⟩,I1⟩:=ag;have dO:=ho dO;have qz:=dI qz;have xx:=ez.1 xx;obtain⟨cs,cd,g6⟩:=dH g5;simp only[fs] at g6;obtain⟨rfl,rfl⟩:=g6;obtain⟨i,zv,bx,cl,eG⟩:=w1 aK;obtain⟨kB,pZ⟩:=xr (e:=e) (v:=v) (n:=σ.n) eG;obtain⟨i2,CW,Rs⟩:=r0 ab;obtain rfl:=er (bx.symm.trans CW);obtain⟨OK,M6⟩:=PO aj ad bo;refine Ip (Mv cd (M9 (yJ pZ) len) M6) (fun a1=>ez.2 (k3 _)) (fun a1 w wE=>?_);have bu:(ps.map fun(q:Nat×bf)=>(q.1,a.eval q.2)).toList=l.map (zk e v):=by rw[oV];exact OK
  have aI:=Lj (e:=e) (v:=v) cd;have bD:(Array.range (len*m)).map (fun i=>zv.cells[i%zv.cells.size]!)=(bt e v (times z.cells len)).toArray:=by rw[qz];exact Zr kB (by omega) len
  rw[←bD] at aI;by_cases aB:len=0
  ·subst aB;have bc:l=[]:=by
    have:l.isEmpty=true:=by simpa[Nat.blt] using I1
    exact Px.1 this
   subst bc;simp only[tj,times,eb] at cd;subst cd;have dl:ps.map (fun(q:Nat×bf)=>(q.1,a.eval q.2))= #[]:=by apply mh;rw[bu];rfl
   have ii:(Instr.buildSlice t 0 #[]).run P w=.ok (.slice (some ⟨w.heap.size,0,none⟩) 0 0) (w.alloc (.cells #[] E)):=by
    have aI:Instr.fill (fun i=>some (i*m,m)) (Array.map (fun _=>default) (Array.range 0)) []=some #[]:=by simp[Instr.fill]
    simp only[Instr.buildSlice,Sem.run_bind,run_underlying (vA aa),Result.andThen_ok,qy ab,Sem.run_pure,jc,aD,newRow];rw[az (by omega)];simp[aI]
   simp only[execOp,av,Sem.run_bind,dl,ii,Result.andThen_ok,Sem.run_pure,aT,wE,bt]
  ·have cE:dN P t E m i.bytes zv:=dN.mk' (vA aa) (by rw[bx,gv,cl,Rs]);have ii:=VC (P:=P) (w:=w) (T:=t) (len:=len) (parts:=ps.map fun(q:Nat×bf)=>(q.1,a.eval q.2)) (cells:=(bt e v cs).toArray) (by omega) (by
    intro aL;rcases Nat.mul_eq_zero.1 aL with h|h<;>omega) (by rw[bu];exact aI)
   simp only[execOp,av,Sem.run_bind,ii,Result.andThen_ok,Sem.run_pure,aT,wE]
theorem an8{G:Nat→Option ai}(aj:fk e v env bL aX a)(ad:fu v σ.n env)(hm:ct v σ)(aq:au F w₀ (bP P e v σ.h::R) w){t:aO}{len:Nat}{ps:Array (Nat×bf)}(av:o.op=.buildSlice t len ps)(h:Mj t len ps P G env σ=some (r,bn)):l3 P e F w₀ R v σ ((execOp a.eval o).run P w) r bn:=(XP (G:=G) aj ad av h).ends hm aq
end
section
variable{e:dB}{v a1:cu}{n bL:Nat}{env:bp}{aX:List fj}{a:Act}{P:a8}{w:ao}{o:Oper}{r:ai}{F:Nat→Prop}{w₀:ao}{R L:List bi}{σ bn:Mem}
theorem VO{x:ai}(h:LN x=true):pn (aT e v x)=true:=by
 cases x<;>first|rfl|(cases h;done)
theorem afw{id off:Nat}{q:bQ}{cs:List ai}{x:ai}(aM:cellsOf q=some cs)(vx:off<cs.length)(af:LN x=true)(aq:au F w₀ (dV P e v id q::L) w):
  ∃ar,(store ⟨v.b4 id,off,none⟩ (aT e v x)).run P w=.ok () ar∧au F w₀ (dV P e v id (setCells (cs.set off x) q)::L) ar:=by
 cases q with
 |cells ty dW=>
  injection aM with aM;subst aM;have ag:w.cell? ⟨v.b4 id,off,none⟩=some (aT e v dW[off]):=aq.cP (i:=0) rfl (by simp[oc,eF vx]);refine⟨_,Go.a6.Ox (P:=P) (w:=w) (VO (e:=e) (v:=v) af) ag (aq.acY (i:=0) I off),?_⟩;have ab:=aq.Wk (i:=0) rfl off (aT e v x);simp only[wD,r4,←Od] at ab;exact ab
 |row ty sz m dW=>
  injection aM with aM;subst aM;have ag:w.cell? ⟨ob (some ⟨v.b4 id,0,none⟩),0+off,none⟩=some (aT e v dW[off]):=aq.xy (q:=0) (j:=off) rfl (by rw[oc,eF vx];rfl);have hm:m≠0:=by
   intro aB;have an:=(aq.ms (q:=0) rfl).2.2;rw[aB,jc,kf] at an;omega
  have aI:=aq.H3 (q:=0) (j:=off) rfl hm;have ab:=aq.NG (q:=0) (j:=off) (v:=aT e v x) rfl (by rw[kf];exact vx);simp only[ob,iO] at ag aI ab;refine⟨_,Go.a6.Ox (P:=P) (w:=w) (VO (e:=e) (v:=v) af) ag aI,?_⟩;simp only[wD,←Od] at ab;exact ab
 |_=>cases aM
theorem afL{q:bQ}{cs dW:List ai}(aM:cellsOf q=some cs):cellsOf (setCells dW q)=some dW:=by
 cases q<;>first|rfl|(cases aM;done)
theorem arD{q:bQ}{a b:List ai}:setCells b (setCells a q)=setCells b q:=by cases q<;>rfl
theorem aqW{q:bQ}{cs:List ai}(aM:cellsOf q=some cs):setCells cs q=q:=by
 cases q<;>first|(cases aM;done)|(injection aM with aM;subst aM;rfl)
theorem CZ(b o k:Nat):(⟨b,o,none⟩:Addr).add k=⟨b,o+k,none⟩:=lB b o k
theorem WC{id off:Nat}:∀{vs cs dW:List ai} {k:Nat} {q:bQ} {w:ao},cellsOf q=some cs→over cs (off+k) vs=some dW→ni vs=true→au F w₀ (dV P e v id q::L) w→
  ∃ar,(storeCells ⟨v.b4 id,off,none⟩ (bt e v vs) k).run P w=.ok () ar∧au F w₀ (dV P e v id (setCells dW q)::L) ar
 |[],cs,dW,k,q,w,aM,av,_,aq=>by
  obtain⟨rfl,_⟩:=DP av;exact⟨w,I,by rw[aqW aM];exact aq⟩
 |x::vs,cs,dW,k,q,w,aM,av,br,aq=>by
  simp only[ni,b7] at br;obtain⟨aa,ab⟩:=D8 av;obtain⟨m0,an,aK⟩:=afw aM aa br.1 aq;obtain⟨aZ,bo,cd⟩:=WC (k:=k+1) (afL aM) ab br.2 aK;refine⟨aZ,?_,by rw[arD] at cd;exact cd⟩;simp only[bt,storeCells];rw[Sem.run_bind,CZ,an];exact bo
theorem atp{q:bQ}{cs dW:List ai}(aM:cellsOf q=some cs)(ad:cA v n dW=true):qX v n (setCells dW q):=by
 cases q<;>first|exact ad|(cases aM;done)
theorem Ro{id off:Nat}{vs:List ai}(hm:ct v σ)(aq:au F w₀ (bP P e v σ.h::R) w)(br:ni vs=true)(ad:cA v σ.n vs=true)(h:σ.write id off vs=some bn):
  ∃ar,(storeCells ⟨v.b4 id,off,none⟩ (bt e v vs)).run P w=.ok () ar∧au F w₀ (bP P e v bn.h::R) ar∧ct v bn∧bn.n=σ.n:=by
 obtain⟨q,aa,g1⟩:=bC h;obtain⟨cs,ab,g2⟩:=bC g1;obtain⟨dW,an,rfl⟩:=dH g2;obtain⟨ar,k1,k2⟩:=WC (k:=0) ab an br (aq.o8 aa);have hO:cA v σ.n cs=true:=Ie hm (id:=id) (by unfold Mem.zf;rw[aa];exact ab);exact⟨ar,k1,k2.Ke,hm.set (hm id q aa).1 (atp ab (QC an hO ad)),I⟩
theorem ac6{G:Nat→Option ai}(aj:fk e v env bL aX a)(ad:fu v σ.n env)(hm:ct v σ)(aq:au F w₀ (bP P e v σ.h::R) w){t:aO}{x y:bf}(av:o.op=.store t x y)(h:YW t x y P G env σ=some (r,bn)):l3 P e F w₀ R v σ ((execOp a.eval o).run P w) r bn:=by
 obtain⟨p,aa,g1⟩:=bC h;obtain⟨u,ab,g2⟩:=bC g1;obtain⟨Cm,an,g3⟩:=dH g2;simp only[xf,fs] at g3;obtain⟨rfl,rfl⟩:=g3;unfold YU at an;split at an
 ·rename_i id off;obtain⟨m,aK,g4⟩:=bC an;cases ag:(Nat.beq m u.cells.length&&ni u.cells) with
  |false=>rw[ag] at g4;cases g4
  |true=>
   rw[ag,cp] at g4;rw[b7] at ag;have hlen:=dI ag.1;obtain⟨ar,k1,k2,bx,cl⟩:=Ro hm aq ag.2 (yJ (jg ad ab)) g4;refine⟨v,ar,ds.refl _ _,by omega,bx,I,k2,.inr ⟨?_,I⟩⟩;have bu:((aT e v u).cells.size≠m)=False:=by rw[ub];simp[kf,hlen]
   simp only[execOp,av,dC aj aa,dC aj ab,aT,Instr.storeAt,Instr.sureAddr,Sem.run_bind,Sem.run_pure,Result.andThen_ok,storeVar,qy aK,bu,oy];rw[ub];simp only[k1,Result.andThen_ok]
 ·cases an
end
section
variable{e:dB}{v a1:cu}{n bL:Nat}{env:bp}{aX:List fj}{a:Act}{P:a8}{w:ao}{o:Oper}{r:ai}{F:Nat→Prop}{w₀:ao}{R L:List bi}{σ bn:Mem}
theorem FR{sz:Nat}{x:ai}{cs:List ai}(h:pQ σ sz x=some cs)(aq:au F w₀ (bP P e v σ.h::R) w):∃(A:aN) (m c:Nat),aT e v x=.slice A m c∧tb x=some m∧cs.length=m*sz∧(m≠0→∃g off,A=some ⟨g,off,none⟩∧∀j y,cs[j]?=some y→w.cell? ⟨g,off+j,none⟩=some (aT e v y)):=by
 unfold pQ at h;split at h
 ·injection h with h;subst h;exact⟨_,_,_,I,I,by simp,fun h=>absurd I h⟩
 ·injection h with h;subst h;exact⟨_,_,_,I,I,by simp,fun h=>absurd I h⟩
 ·rename_i id off len cap;by_cases aB:len=0
  ·subst aB;rw[mb,cp] at h;injection h with h;subst h;exact⟨_,_,_,I,I,by simp,fun h=>absurd I h⟩
  ·rw[iT aB,eO] at h;obtain⟨_,_,_,hlen⟩:=vC h;exact⟨_,_,_,I,I,hlen,fun _=>⟨_,_,I,fun j y ax=>Cl h aq ax⟩⟩
 ·rename_i id z lo len;cases aL:Nat.beq z sz with
  |false=>rw[aL] at h;cases h
  |true=>
   rw[aL,cp] at h;obtain rfl:=dI aL;by_cases aB:len=0
   ·subst aB;rw[mb,cp] at h;injection h with h;subst h;exact⟨_,_,_,I,I,by simp,fun h=>absurd I h⟩
   ·rw[iT aB,eO] at h;obtain⟨_,_,_,hlen⟩:=vC h;exact⟨_,_,_,I,I,hlen,fun _=>⟨_,_,I,fun j y ax=>Cl h aq ax⟩⟩
 ·cases h
theorem IQ(hm:ct v σ){sz:Nat}{x:ai}{cs:List ai}(h:pQ σ sz x=some cs):cA v σ.n cs=true:=by
 unfold pQ at h;split at h
 ·injection h with h;subst h;rfl
 ·injection h with h;subst h;rfl
 ·rename_i id off len cap;cases bc:Nat.beq len 0 with
  |true=>rw[bc] at h;injection h with h;subst h;rfl
  |false=>rw[bc] at h;exact C0 hm h
 ·rename_i id z lo len;cases aL:Nat.beq z sz with
  |false=>rw[aL] at h;cases h
  |true=>
   rw[aL,cp] at h;cases bc:Nat.beq len 0 with
   |true=>rw[bc] at h;injection h with h;subst h;rfl
   |false=>rw[bc] at h;exact C0 hm h
 ·cases h
theorem ajV{m:Nat}{cs q:List ai}(ad:cA v n cs=true)(h:takeN m cs=some q):cA v n q=true:=by
 obtain⟨rfl,_,_⟩:=I4 h;exact hy.2 (fun x af=>hy.1 ad x (n9 af))
theorem arR{A:aN}{m c g off sz k:Nat}{cs q:List ai}(bs:A=some ⟨g,off,none⟩)(ag:∀j y,cs[j]?=some y→w.cell? ⟨g,off+j,none⟩=some (aT e v y))(h:takeN (k*sz) cs=some q):
  (Builtin.firstCells sz k (.slice A m c)).run P w=.ok (bt e v q).toArray w:=by
 subst bs;obtain⟨rfl,ab,_⟩:=I4 h;have:=run_loadCells_list (P:=P) w ⟨g,off,none⟩ (bt e v (cs.take (k*sz))) (fun j y ax=>by
  rw[oc] at ax;obtain⟨z,aL,rfl⟩:=dH ax;rw[mj] at aL;split at aL
  ·rw[CZ];exact ag j z aL
  ·cases aL)
 rw[kf,ab] at this;exact this
theorem auq{t t2 E ty:aO}{sz:Nat}{x y:ai}(bb:P.underlying t=some (.slice E))(aL:ko P E=some sz)(hm:ct v σ)(aq:au F w₀ (bP P e v σ.h::R) w)(h:TV σ sz x y=some (r,bn)):
  ∃ar,(Builtin.copy_ #[t,t2] ty #[aT e v x,aT e v y]).run P w=.ok (aT e v r) ar∧au F w₀ (bP P e v bn.h::R) ar∧ct v bn∧bn.n=σ.n∧bM v bn.n r=true:=by
 obtain⟨eE,aa,g1⟩:=bC h;obtain⟨kF,ab,g2⟩:=bC g1;clear h g1;obtain⟨A,nN,bs⟩:=Pz (e:=e) (v:=v) aa;obtain⟨B,vD,bV⟩:=Pz (e:=e) (v:=v) ab;have ah:(bif Nat.blt eE kF then eE else kF)=Nat.min kF eE:=by
  cases ag:Nat.blt eE kF with
  |true=>have:=ez.1 ag;rw[cp];exact(Nat.min_eq_right (Nat.le_of_lt this)).symm
  |false=>
   have:¬eE<kF:=fun h=>by rw[ez.2 h] at ag;cases ag
   rw[eO];exact(kx (by omega)).symm
 simp only[ah] at g2;by_cases aB:Nat.min kF eE=0
 ·rw[aB,mb,cp] at g2;simp only[eb,fs] at g2;obtain⟨rfl,rfl⟩:=g2;refine⟨w,?_,aq,hm,I,I⟩;have aI:(Builtin.firstCells sz 0 (.slice B kF vD)).run P w=.ok #[] w:=by
   cases B with
   |none=>rfl
   |some b=>simp[Builtin.firstCells,loadCells,loadCellsFrom]
  rw[bs,bV];have jw:(#[t,t2]:Array aO)[0]?=some t:=rfl;have bu:(#[Value.slice A eE nN,.slice B kF vD]:cJ)[0]?=some (.slice A eE nN):=rfl;have bD:(#[Value.slice A eE nN,.slice B kF vD]:cJ)[1]?=some (.slice B kF vD):=rfl;simp only[Builtin.copy_,jw,bu,bD,Sem.run_bind,run_underlying bb,Result.andThen_ok,Builtin.lenOf,Sem.run_pure,aB,qy aL,aI];cases A<;>rfl
 ·rw[iT aB,eO] at g2;obtain⟨ys,an,g3⟩:=bC g2;obtain⟨q,aK,g4⟩:=bC g3;clear g2 g3;cases tI:ni q with
  |false=>rw[tI] at g4;cases g4
  |true=>
   rw[tI] at g4;simp only[K7,eO] at g4;obtain⟨avn,fN,dp,Uw,avk,_,yb⟩:=FR (e:=e) (v:=v) (P:=P) an aq;rw[bV] at Uw;injection Uw with bu bD dl;subst bu;subst bD;subst dl;have q9:kF≠0:=fun h=>aB (by rw[h];exact Nat.zero_min _);obtain⟨g,off,aur,FC⟩:=yb q9;have amh:=arR (P:=P) (w:=w) (m:=kF) (c:=vD) (k:=Nat.min kF eE) (sz:=sz) aur FC aK;have Kv:=ajV (IQ hm an) aK;have fin:∀(id ss:Nat) (c2:Nat),aT e v x=.slice (some ⟨v.b4 id,ss,none⟩) eE c2→σ.write id ss q=some bn→r=.i .i64 (Nat.min kF eE:Nat)→∃ar,(Builtin.copy_ #[t,t2] ty #[aT e v x,aT e v y]).run P w=.ok (aT e v r) ar∧au F w₀ (bP P e v bn.h::R) ar∧ct v bn∧bn.n=σ.n∧bM v bn.n r=true:=by
    intro id ss c2 af hw aH;subst aH;obtain⟨ar,k1,k2,bx,cl⟩:=Ro hm aq tI Kv hw;refine⟨ar,?_,k2,bx,cl,I⟩;rw[af,bV];have jw:(#[t,t2]:Array aO)[0]?=some t:=rfl;have bu:(#[Value.slice (some ⟨v.b4 id,ss,none⟩) eE c2,.slice B kF vD]:cJ)[0]?=some (.slice (some ⟨v.b4 id,ss,none⟩) eE c2):=rfl;have bD:(#[Value.slice (some ⟨v.b4 id,ss,none⟩) eE c2,.slice B kF vD]:cJ)[1]?=some (.slice B kF vD):=rfl;simp only[Builtin.copy_,jw,bu,bD,Sem.run_bind,run_underlying bb,Result.andThen_ok,Builtin.lenOf,Sem.run_pure,qy aL,amh,k1];rfl
   split at g4
   ·rename_i id ss l2 c2;obtain⟨Cm,bo,cd⟩:=dH g4;simp only[fs] at cd;obtain⟨rfl,rfl⟩:=cd;injection aa with aa;subst aa;exact fin id ss c2 I bo I
   ·rename_i id z lo l2;cases kW:Nat.beq z sz with
    |false=>rw[kW] at g4;cases g4
    |true=>
     rw[kW,cp] at g4;obtain rfl:=dI kW;obtain⟨Cm,bo,cd⟩:=dH g4;simp only[fs] at cd;obtain⟨rfl,rfl⟩:=cd;injection aa with aa;subst aa;exact fin id (lo*z) _ I bo I
   ·cases g4
end
section
variable{e:dB}{v a1:cu}{n bL:Nat}{env:bp}{aX:List fj}{a:Act}{P:a8}{w:ao}{o:Oper}{r:ai}{F:Nat→Prop}{w₀:ao}{R L:List bi}{σ bn:Mem}
theorem IS{q:bQ}{ob:Obj}(hm:ct v σ)(aq:au F w₀ (bP P e v σ.h::R) w)(ad:∀a1,ds σ.n v a1→qX a1 (σ.n+1) q)
  (av:∀a1 D,ds σ.n v a1→a1.b4 σ.n=w.heap.size→(gQ w.heap.size ob).ok (w.alloc ob) D→(dV P e a1 σ.n q).ok (w.alloc ob) D):
  ∃a1,ds σ.n v a1∧a1.b4 σ.n=w.heap.size∧ct a1 (σ.new q)∧au F w₀ (bP P e a1 (σ.new q).h::R) (w.alloc ob):=by
 have af:=cu.y0 v σ.n w.heap.size 0;have aH:(v.new σ.n w.heap.size 0).b4 σ.n=w.heap.size:=by simp[cu.new]
 refine⟨v.new σ.n w.heap.size 0,af,aH,ct.new (hm.ext af) (ad _ af),?_⟩;have aa:=aq.EC ob;have an:au F w₀ (bP P e v σ.h::gQ w.heap.size ob::R) _:=⟨aa.b6,aa.lt,Sep.swap aa.sep⟩;have bo:=au.si (fun w D ah=>w9 hm af ah) an;obtain⟨D,k1,k2,bx⟩:=Sep.swap bo.sep;have cd:au F w₀ (dV P e (v.new σ.n w.heap.size 0) σ.n q::bP P e (v.new σ.n w.heap.size 0) σ.h::R) (w.alloc ob):=⟨bo.b6,bo.lt,D,av _ D af aH k1,k2,bx⟩;exact cd.uS hm.fresh
theorem TU{G:Nat→Option ai}{t:aO}(av:o.op=.makeMap t none)(h:Hd t none P G env σ=some (r,bn)):uA P e v σ a o r bn:=by
 simp only[Hd,eb,fs] at h;obtain⟨rfl,rfl⟩:=h;refine⟨.map [] 0,.map #[] 0,I,(fun _ _ q aM=>by cases aM),fun _=>ez.2 (k3 _),fun a1 _=>I,fun a1 w br=>?_⟩;simp only[execOp,av,pB,Instr.makeMap,Sem.run_bind,run_newObj,Result.andThen_ok,Sem.run_pure,aT,br];rfl
theorem atu{G:Nat→Option ai}(hm:ct v σ)(aq:au F w₀ (bP P e v σ.h::R) w){t:aO}(av:o.op=.makeMap t none)(h:Hd t none P G env σ=some (r,bn)):l3 P e F w₀ R v σ ((execOp a.eval o).run P w) r bn:=(TU (G:=G) (env:=env) av h).ends hm aq
theorem Gw{id:Nat}{q:bQ}{ob:Obj}(bg:σ.h.get id=some q)(aM:dV P e v id q=gQ (v.b4 id) ob)(aq:au F w₀ (bP P e v σ.h::R) w):w.heap[v.b4 id]?=some ob:=by
 have aa:=aq.o8 bg;rw[aM] at aa;exact aa.uG
theorem AT{id:Nat}{es:List (ai×ai×Nat)}{c:Nat}(h:σ.oq id=some (es,c)):σ.h.get id=some (.map es c):=by
 unfold Mem.oq at h;split at h
 ·simp only[eb,fs] at h;obtain⟨rfl,rfl⟩:=h;assumption
 ·cases h
theorem uE{id:Nat}{es:List (ai×ai×Nat)}{c:Nat}(h:σ.oq id=some (es,c))(aq:au F w₀ (bP P e v σ.h::R) w):w.heap[v.b4 id]?=some (.map (es.map (e4 e v)).toArray c):=Gw (AT h) rfl aq
theorem Td{id:Nat}{q hJ:bQ}{ob oP:Obj}(hm:ct v σ)(bg:σ.h.get id=some q)(aM:dV P e v id q=gQ (v.b4 id) ob)(apC:dV P e v id hJ=gQ (v.b4 id) oP)(ad:qX v σ.n hJ)(aq:au F w₀ (bP P e v σ.h::R) w):
  au F w₀ (bP P e v (σ.set id hJ).h::R) (w.putObj (v.b4 id) oP)∧ct v (σ.set id hJ):=by
 have aa:=aq.o8 bg;rw[aM] at aa;have ab:=aa.nD oP;rw[←apC] at ab;exact⟨ab.Ke,hm.set (hm id q bg).1 ad⟩
theorem sP{g:Nat}{m:Array MapEntry}{c:Nat}(h:w.heap[g]?=some (.map m c)):(getObj g).run P w=.ok (.map m c) w:=by simp[getObj,Sem.run,h]
theorem XU{g:Nat}{m:eu}{s:Nat}{seen:Array Nat}{c:Nat}(h:w.heap[g]?=some (.mapIter m s seen c)):(getObj g).run P w=.ok (.mapIter m s seen c) w:=by simp[getObj,Sem.run,h]
theorem zD{g:Nat}{m:Array MapEntry}{c:Nat}(ob:Obj)(h:w.heap[g]?=some (.map m c)):(setObj g ob).run P w=.ok () (w.putObj g ob):=by simp[setObj,Sem.run,h,World.putObj]
theorem ZO{t el:aO}(h:F2 P t=some el):∃k,P.underlying t=some (.map k el):=by
 unfold F2 at h;split at h
 ·injection h with h;subst h;exact⟨_,by assumption⟩
 ·cases h
theorem ako{G:Nat→Option ai}(aj:fk e v env bL aX a)(ad:fu v σ.n env)(hm:ct v σ)(aq:au F w₀ (bP P e v σ.h::R) w){t:aO}{x:bf}(av:o.op=.range t x)(h:Wc t x P G env σ=some (r,bn)):l3 P e F w₀ R v σ ((execOp a.eval o).run P w) r bn:=by
 obtain⟨el,aa,g1⟩:=bC h;obtain⟨y,ab,g2⟩:=bC g1;obtain⟨k,ah⟩:=ZO aa;have zN:=jg ad ab;unfold aam at g2;split at g2
 ·simp only[eb,fs] at g2;obtain⟨rfl,rfl⟩:=g2;obtain⟨a1,k1,k2,bx,cl⟩:=IS (q:=.iter none 0 [] 0) (ob:=.mapIter none 0 #[] 0) hm aq (fun _ _ q aM=>by cases aM) (fun a1 D _ br eg=>by simp only[dV,br,pB];exact eg);refine⟨a1,_,k1,k5 _,bx,ez.2 (k3 _),cl,.inl ?_⟩;simp only[execOp,av,dC aj ab,aT,Instr.range,Sem.run_bind,run_underlying ah,Result.andThen_ok,Sem.run_pure,run_newObj,k2];rfl
 ·rename_i id;obtain⟨⟨es,c⟩,an,g3⟩:=dH g2;simp only[fs] at g3;obtain⟨rfl,rfl⟩:=g3;have tJ:id<σ.n:=ez.1 zN;obtain⟨a1,k1,k2,bx,cl⟩:=IS (q:=.iter (some id) c [] c) (ob:=.mapIter (some (v.b4 id)) c #[] c) hm aq (fun _ _ q aM=>by injection aM with aM;subst aM;omega) (fun a1 D af br eg=>by simp only[dV,br,gv,(af id tJ).1];exact eg);refine⟨a1,_,k1,k5 _,bx,ez.2 (k3 _),cl,.inl ?_⟩;simp only[execOp,av,dC aj ab,aT,Instr.range,Sem.run_bind,run_underlying ah,Result.andThen_ok,sP (uE an aq),Sem.run_pure,run_newObj,k2];rfl
 ·cases g2
end
section
variable{e:dB}{v a1:cu}{n bL:Nat}{env:bp}{aX:List fj}{a:Act}{P:a8}{w:ao}{o:Oper}{r:ai}{F:Nat→Prop}{w₀:ao}{R L:List bi}{σ bn:Mem}
theorem WU(t:Nat):∀(l:ae),qR l t=l.contains t
 |[]=>rfl
 |x::r=>by
  simp only[qR,List.contains_cons];by_cases h:x=t
  ·subst h;simp
  ·rw[iT h,eO,WU t r];have:(t==x)=false:=by simpa using n4 h
   rw[this];rfl
theorem acb{it m since c:Nat}{seen:ae}:∀{l:List (ai×ai×Nat)} {q:ai×ai×Nat},q∈l→(ai.fi [.b true,q.1,q.2.1],σ.set it (.iter (some m) since (seen++[q.2.2]) c))∈CY σ it m since seen c l
 |[],_,h=>by cases h
 |(k,u,b)::r,q,h=>by
  rcases ei.1 h with rfl|h
  ·simp[CY]
  ·simp only[CY,ei];exact .inr (acb h)
theorem afF{x:ai}{outs:List (ai×Mem)}{ty:aO}(hm:ct v σ)(aq:au F w₀ (bP P e v σ.h::R) w)(ad:bM v σ.n x=true)(h:G7 σ x=some outs):
  ∃r bn ar,(r,bn)∈outs∧(Instr.next (aT e v x) false ty).run P w=.ok (aT e v r) ar∧au F w₀ (bP P e v bn.h::R) ar∧ct v bn∧bn.n=σ.n∧bM v σ.n r=true:=by
 unfold G7 at h;split at h
 ·rename_i it;split at h
  ·rename_i since seen last bg;injection h with h;subst h;have hi:=Gw (ob:=.mapIter none since seen.toArray last) bg rfl aq;refine⟨.fi [.b false],σ,w,by simp,?_,aq,hm,I,I⟩;simp only[aT,Instr.next,Sem.run_bind,XU hi,Result.andThen_ok];rfl
  ·rename_i m since seen last bg;obtain⟨⟨es,c⟩,aa,ab⟩:=bC h;simp only at ab;cases ag:(Nat.ble since last&&es.all (fun e=>Nat.blt e.2.2 since)) with
   |false=>rw[ag] at ab;cases ab
   |true=>
    rw[ag,cp] at ab;injection ab with ab;rw[b7] at ag;have hf:=ho ag.1;have rJ:=lf.1 ag.2;have hi:=Gw (ob:=.mapIter (some (v.b4 m)) since seen.toArray last) bg rfl aq;have kE:=uE aa aq;have ahH:=(hm m _ (AT aa)).2;have aba:leftOf (es.map (e4 e v)).toArray seen.toArray=((es.filter fun e=> !qR seen e.2.2).map (e4 e v)).toArray:=by
     unfold leftOf;apply mh;simp only[List.filter_toArray,Pv];congr 1;apply JJ;intro q _;simp only[Function.comp,e4,WU,List.contains_toArray]
    rcases run_next_at (P:=P) w ty (v.b4 it) (v.b4 m) since last seen.toArray (es.map (e4 e v)).toArray c hi kE (fun x af=>by
     simp only[gE] at af;obtain⟨q,aM,rfl⟩:=af;exact ez.1 (rJ q aM)) hf with⟨k1,k2⟩|⟨hJ,k1,m0,k2,bx⟩
    ·rw[aba] at k1;have c4:(es.filter fun e=> !qR seen e.2.2)=[]:=by
      have:((es.filter fun e=> !qR seen e.2.2).map (e4 e v)).length=0:=by simpa using k1
      simpa using this
     rw[c4] at ab;subst ab;exact⟨.fi [.b false],σ,w,by simp,k2,aq,hm,I,I⟩
    ·rw[aba] at k1;simp only[gE] at k1;obtain⟨q,aM,rfl⟩:=k1;have e7:(es.filter fun e=> !qR seen e.2.2).isEmpty=false:=by
      cases bc:(es.filter fun e=> !qR seen e.2.2) with
      |nil=>rw[bc] at aM;cases aM
      |cons _ _=>rfl
     rw[e7,eO] at ab;subst ab;have rf:=ahH q (mL.1 aM).1;have Bf:au F w₀ (bP P e v σ.h::R) m0:=by
      rcases k2 with rfl|rfl
      ·exact aq
      ·exact aq.drew
     obtain⟨cl,eG⟩:=Td (hJ:=.iter (some m) since (seen++[q.2.2]) c) (oP:=.mapIter (some (v.b4 m)) since (seen++[q.2.2]).toArray c) hm bg rfl rfl (fun i hi=>by injection hi with hi;subst hi;exact(hm m _ (AT aa)).1) Bf;refine⟨_,_,_,acb aM,?_,cl,eG,I,?_⟩
     ·rw[show aT e v (ai.p it 0)=.pointer (some ⟨v.b4 it,0,none⟩) from rfl,bx];simp only[aT,bt,e4,List.push_toArray];rfl
     ·simp only[bM,cA,rf.1,rf.2,pH]
  ·cases h
 ·cases h
end
section
variable{e:dB}{v a1:cu}{n bL:Nat}{env:bp}{aX:List fj}{a:Act}{P:a8}{w:ao}{o:Oper}{r:ai}{F:Nat→Prop}{w₀:ao}{R L:List bi}{σ bn:Mem}
theorem ZU{ys:List ai}(h:ni ys=true):∀u∈bt e v ys,u.oneCell'=true:=by
 induction ys with
 |nil=>intro u hu;cases hu
 |cons x r ih=>
  simp only[ni,b7] at h;intro u hu;simp only[bt,ei] at hu;rcases hu with rfl|hu
  ·have:=h.1;cases x<;>first|rfl|(cases this;done)
  ·exact ih h.2 u hu
theorem asE{x9 pI:aO}{sz m:Nat}{y:ai}{ys:List ai}(bb:P.underlying x9=some (.slice pI))(h:pQ σ sz y=some ys)(bc:tb y=some m)(av:ni ys=true)(aq:au F w₀ (bP P e v σ.h::R) w):Src P sz x9 (aT e v y) m (bt e v ys) w:=by
 obtain⟨A,fN,c,aa,ab,an,aK⟩:=FR (e:=e) (v:=v) h aq;obtain rfl:=er (bc.symm.trans ab);rw[aa];cases A with
 |none=>
  have hm:m=0:=by
   by_cases hm:m=0
   ·exact hm
   ·obtain⟨_,_,bs,_⟩:=aK hm;cases bs
  subst hm;have:ys=[]:=kS (by rw[an,jc]);subst this;exact Src.ofNil w bb c
 |some b=>
  refine Src.ofSlice w bb b m c _ (by rw[kf,an]) (fun j u ax=>?_) (ZU av);rw[oc] at ax;obtain⟨z,aL,rfl⟩:=dH ax;by_cases hm:m=0
  ·subst hm;have:ys=[]:=kS (by rw[an,jc]);subst this;simp at aL
  ·obtain⟨g,off,bs,ag⟩:=aK hm;injection bs with bs;subst bs;rw[CZ];exact ag j z aL
theorem anw{t E ty:aO}{sz id off len cap m:Nat}{y:ai}{ys:List ai}(bb:P.underlying t=some (.slice E))(aL:ko P E=some sz)(nP:Src P sz t (aT e v y) m (bt e v ys) w)(av:ni ys=true)(ad:cA v σ.n ys=true)(hm:ct v σ)(aq:au F w₀ (bP P e v σ.h::R) w)
  (aH:len+m≤cap) (hw:σ.write id (off+len*sz) ys=some bn):∃ar,(Builtin.append_ #[t,t] ty #[.slice (some ⟨v.b4 id,off,none⟩) len cap,aT e v y]).run P w=.ok (.slice (some ⟨v.b4 id,off,none⟩) (len+m) cap) ar∧au F w₀ (bP P e v bn.h::R) ar∧ct v bn∧bn.n=σ.n:=by
 obtain⟨ar,k1,k2,bx,cl⟩:=Ro hm aq av ad hw;refine⟨ar,?_,k2,bx,cl⟩;obtain⟨i,hi,fU⟩:=r0 aL;have hf:∀(w:ao),(sizeOf E).run P w=.ok sz w:=fun w=>qy aL;simp[Builtin.append_,run_underlying bb,hf,nP.len,aH,nP.cells,Addr.add_lit,k1]
theorem anq{E sz m c:Nat}{cs:List ai}{cur:cJ}(hm:ct v σ)(aq:au F w₀ (bP P e v σ.h::R) w)(ad:cA v σ.n cs=true)(bc:cs.length=m*sz)(sh:m≤c)(ag:c≤maxLen)(asT:cur.size=c*sz)(C9:cur.toList.take (m*sz)=bt e v cs):
  ∃a1,ds σ.n v a1∧a1.b4 σ.n=w.heap.size∧a1.gN σ.n=c∧ct a1 (σ.new (.row E sz m cs))∧au F w₀ (bP P e a1 (σ.new (.row E sz m cs)).h::R) (w.alloc (.cells cur E)):=by
 have af:=cu.y0 v σ.n w.heap.size c;have aH:(v.new σ.n w.heap.size c).b4 σ.n=w.heap.size:=by simp[cu.new]
 have ah:(v.new σ.n w.heap.size c).gN σ.n=c:=by simp[cu.new]
 refine⟨v.new σ.n w.heap.size c,af,aH,ah,ct.new (hm.ext af) (qA (k5 _) _ (qb af _ ad)),?_⟩;have aa:=aq.alloc E cur;have an:au F w₀ (bP P e v σ.h::aE w.heap.size E cur::R) _:=⟨aa.b6,aa.lt,Sep.swap aa.sep⟩;have bo:=au.si (fun w D ah=>w9 hm af ah) an;obtain⟨D,⟨p4,k1⟩,k2,bx⟩:=Sep.swap bo.sep;have cd:au F w₀ (dV P e (v.new σ.n w.heap.size c) σ.n (.row E sz m cs)::bP P e (v.new σ.n w.heap.size c) σ.h::R) (w.alloc (.cells cur E)):=by
  refine⟨bo.b6,bo.lt,D,?_,k2,bx⟩;simp only[dV,aH,ah,pU af cs ad];refine⟨⟨by rw[kf,bc],.inr ⟨w.heap.size,c,cur,I,dg _,k1,sh,ag,asT,C9⟩⟩,fun k=>?_⟩;rw[p4 k];simp[ob]
 exact cd.uS hm.fresh
theorem HV{E:aO}{sz:Nat}(h:Bo P E=some sz):∃(i:TypeInfo) (z:aV),P.info? E=some i∧i.size=sz∧i.bytes≤1000∧i.zero=some z∧z.cells.size=sz∧0<sz:=by
 obtain⟨m,aa,g1⟩:=bC h;obtain⟨b,ab,g2⟩:=bC g1;obtain⟨zv,an,g3⟩:=bC g2;cases ag:(Nat.ble b 1000&&(Nat.beq m zv.cells.length&&Nat.blt 0 m)) with
 |false=>rw[ag] at g3;cases g3
 |true=>
  rw[ag,cp] at g3;injection g3 with g3;subst g3;simp only[b7] at ag;obtain⟨i,hi,aq⟩:=r0 aa;obtain⟨i2,mN,ad⟩:=X4 ab;obtain⟨i3,z,arU,aL,Cy⟩:=w1 an;obtain rfl:=er (hi.symm.trans mN);obtain rfl:=er (hi.symm.trans arU);obtain⟨k1,_⟩:=xr (e:=default) (v:=⟨fun _=>0,fun _=>0⟩) (n:=0) Cy;refine⟨i,z,hi,aq,by rw[ad];exact ho ag.1,aL,?_,ez.1 ag.2.2⟩;rw[←k1,ub];simp only[Ag,kf];exact(dI ag.2.1).symm
end
end Go.In
end
