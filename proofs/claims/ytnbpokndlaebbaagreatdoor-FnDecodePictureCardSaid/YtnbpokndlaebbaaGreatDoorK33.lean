import Derived.Test.YtnbpokndlaebbaaGreatDoorK32
import Derived.Conc.Holds
import Derived.Test.YtnbpokndlaebbaaGreatDoorTie
import Derived.Test.YtnbpokndlaebbaaGreatDoorCards
import Derived.JoinedTies
set_option maxRecDepth 100000
set_option maxHeartbeats 8000000
set_option linter.all false
open Go.Value renaming int->U,slice->Y,bool->ci,agg->bi,pointer->d9,tuple->em,iface->gc
open Go.IntKind renaming i64->O
open Go.Obj renaming cells->ap
open Go.Ending renaming returned->dl
open Go.Proofs.YtnbpokndlaebbaaGreatDoor
open Bool renaming false->Ba,true->AT
open Go renaming TypeId->SL,Value->AS
namespace Go.Proofs.Q0
open Go.Proofs.Tryz
section
open Go
def j00:(Rows.fnDecodePictureRow.wf (OpenSpec.ofChange Rows.fnDecodePictureSpec))=AT:=aF
def j01:(laidOutB Tryz.prog)=AT:=aj
def j02:(mapsRowed Tryz.prog)=AT:=aj
def j03:(Tryz.f3.params.all (Tryz.prog.readableRec ·))=AT:=aj
def j04:(namedTie Tryz.prog Rows.fnDecodePictureRow.named Rows.fnDecodePictureSpec.vars)=AT:=aF
def j05:((Rows.fnDecodePictureRow.stops==[]))=AT:=aF
def j06:((Tryz.prog.stops==[]))=AT:=aF
def j07:((Rows.fnDecodePictureRow.knobs==[]))=AT:=aF
def j08:((Tryz.prog.stopKnobs==[]))=AT:=aF
def j09:((Rows.fnDecodePictureRow.inPlace==Tryz.prog.inPlace 3))=AT:=aj
def j10:((Rows.fnDecodePictureRow.unfollowed==Tryz.prog.unfollowed 3))=AT:=aj
def j11:((Rows.fnDecodePictureRow.recurses==Tryz.prog.recurses 3))=AT:=aj
def j12:((Rows.fnDecodePictureRow.named==Tryz.prog.varsNamed 3))=AT:=aj
def j13:((Rows.fnDecodePictureRow.maps==(Tryz.f3.params.toList++Rows.fnDecodePictureSpec.plain.varTypes Tryz.prog).any (Tryz.prog.mapsRec ·)))=AT:=aF
def j14:((Rows.fnDecodePictureRow.ifaces==(Tryz.f3.params.toList++Rows.fnDecodePictureSpec.plain.varTypes Tryz.prog).any (Tryz.prog.ifacesRec ·)))=AT:=aF
def j15:((Rows.fnDecodePictureRow.mapsOut==Tryz.prog.mapsAmong Tryz.f3.resultTypes.toList))=AT:=aF
def j16:((Rows.fnDecodePictureRow.loops==(Tryz.f3.params.toList++Rows.fnDecodePictureSpec.plain.varTypes Tryz.prog).any (Tryz.prog.loopsFrom ·)))=AT:=aj
def j17:((Rows.fnDecodePictureRow.wideKeys==(Tryz.f3.params.toList++Rows.fnDecodePictureSpec.plain.varTypes Tryz.prog++Tryz.f3.resultTypes.toList).any (Tryz.prog.wideKeysFrom ·)))=AT:=aj
def j18:(Rows.fnDecodePictureSpec.vars.all (Tryz.prog.varReadable ·))=AT:=aF
def j19:(Tryz.f3.resultTypes.all λt=>Tryz.prog.readableRec t&&decide (t<Tryz.prog.types.size))=AT:=aj
def j20:((Rows.fnDecodePictureRow.ifacesOut==Tryz.f3.resultTypes.toList.any (Tryz.prog.ifacesRec ·)))=AT:=aF
def j21:((Rows.fnDecodePictureRow.loopsOut==Tryz.f3.resultTypes.toList.any (Tryz.prog.loopsFrom ·)))=AT:=aF
def j22:((Rows.fnDecodePictureRow.plainKeys==Tryz.prog.plainKeys))=AT:=aF
def j23:(Rows.fnDecodePictureRow.shortTexts.isNone)=AT:=aF
def j24:(Tryz.prog.stopsHeard)=AT:=aj
def j25:(Tryz.prog.mayEnter)=AT:=aj
def j26:((Rows.fnDecodePictureRow.lifted==Tryz.prog.liftsFinal))=AT:=aj
def j27:((Tryz.prog.make==some Rows.fnDecodePictureRow.make))=AT:=aj
def j28:((Rows.fnDecodePictureRow.kinds==(if Rows.fnDecodePictureRow.domain.isEmpty then[] else Tryz.f3.params.toList.map λt=>match Tryz.prog.underlying t with|some (.int k)=>some k|_=>none)))=AT:=aF
def j29:((Rows.fnDecodePictureRow.pinned==Rows.fnDecodePictureRow.pinnedBy))=AT:=aF
def j30:((Rows.fnDecodePictureRow.veiled==(Tryz.f3.params.toList++Rows.fnDecodePictureSpec.plain.varTypes Tryz.prog++Tryz.f3.resultTypes.toList).any (Tryz.prog.veiledRec ·)))=AT:=aj
def j31:(Rows.fnDecodePictureRow.veiledFits Tryz.prog Tryz.f3.params.toList (Tryz.f3.params.toList++Rows.fnDecodePictureSpec.plain.varTypes Tryz.prog++Tryz.f3.resultTypes.toList))=AT:=aj
def dK{a b:Bool}(h:a=AT)(k:b=AT):(a&&b)=AT:=by simp_all
def adR:joinedFacts Tryz.prog 3 Tryz.f3 Rows.fnDecodePictureSpec Rows.fnDecodePictureRow=AT:=(dK (dK (dK (dK (dK (dK (dK (dK (dK (dK (dK (dK (dK (dK (dK (dK (dK (dK (dK (dK (dK (dK (dK (dK (dK (dK (dK (dK (dK (dK (dK j00 j01) j02) j03) j04) j05) j06) j07) j08) j09) j10) j11) j12) j13) j14) j15) j16) j17) j18) j19) j20) j21) j22) j23) j24) j25) j26) j27) j28) j29) j30) j31)
end
section
open Go.ChangeShapes Go.WideShapes Go.ChangeAt Go.RowKit Go.Joins Go.Deep Go.Conc aM Go.Proofs.Q0.Open
def acg:ownKnob Tryz.prog.godebug=none:=aF
def Qe:laidOutB Tryz.prog=AT:=aj
def vr2[ah]{φ:Ren}{xs:List AS}(h:∀x∈xs,VR φ x x):aB φ xs.toArray xs.toArray:=⟨rfl,λi x y a b=>by rw[a] at b;cases b;exact h x (zq (by simpa using a))⟩
def ag0:(Tryz.f3.results.toList.all λr=>match r with|.tmp _=>AT|_=>Ba)=AT:=my
def ag1:Gz.prog.inits.idxOf? 3=none:=my
def ag2:iS.testBit 3=AT:=aF
def VZ{W:World}{j l:Addr}(d:St W j l)(hq:Lib.TabIs Tryz.prog W nj .i64 [1,2,4,8,12,16,24,32,48,64,96,128,192,256,384,512])
  {A:Option Addr}{c:Nat}{xs:List Int}(f:Hs W A c xs):
  ∃M last o w' q,runNT Tryz.prog (M+1) (solo (G (Frame.enter Tryz.prog 3 #[.slice A xs.length c] .normal) []) W) #[]=(.ended o w',q)/\
   runN Tryz.prog M (solo (G (Frame.enter Tryz.prog 3 #[.slice A xs.length c] .normal) []) W)=.next last/\
   Go.step Tryz.prog last=.ended o w'/\Conc.Good Tryz.prog (AH W) last o w' q:=by
 obtain⟨ts,m,s,u,n⟩:∃ts:List Nat,ts.Nodup/\j.block∈ts/\l.block∈ts/\∀b∈ts,b=j.block\/b=l.block:=by
  by_cases e:j.block=l.block
  ·exact⟨[j.block],au,au,by simp[e],λb k=>by simp at k;exact .inl k⟩
  ·exact⟨[j.block,l.block],by simp[e],au,au,λb k=>by simpa using k⟩
 have v:Gz.prog.globals.size=3:=Bh
 have p:0<((Array.range Tryz.prog.types.size).map λt=>Value.int .u64 (Int.ofNat t)).size:=by
  rw[Array.size_map,Array.size_range]
  exact Nat.lt_of_not_le λh=>by have:Nat.blt 0 Tryz.prog.types.size=AT:=aj;rw[Nat.blt_eq] at this;omega
 refine afN afF (ts:=ts) (fn:=Tryz.f3) ⟨_,0,by rw[v];exact d.hG,p⟩ m (λb k=>?_) (λg x=>?_) (Gz.mE func3 aw) (λr y=>?_) ag1 ag2 ?_ λwg a=>?_
 ·rw[v];rcases n b k with rfl|rfl
  ·exact d.r1
  ·exact d.r2
 ·obtain⟨B,t,h1⟩:=d.xt g x;exact@NI (cY λ_=>True) _ _ _ _ _ h1
 ·have:=gW.1 ag0 r (jw.2 y);cases r with|tmp t=>exact⟨t,rfl⟩|cell t _=>cases this
 ·refine@vr2 (cY (fj W.heap.size ts.length)) _ _ λz w=>?_;simp only[List.mem_cons,List.not_mem_nil,or_false] at w;subst w;exact@acf (cY (fj W.heap.size ts.length)) ts W A _ c f.iP f.le
 ·refine(VY (adQ d a f) rfl (λi=>?_) (aQ f.le f.cm) f.le (agS (aeO d a s u) (Ti a s) (Ti a u) (agZ d a hq))).mono λe w' he=>?_
  ·by_cases h:i<xs.length
   ·rw[List.getElem?_eq_getElem h];exact f.bI _ (pM h)
   ·rw[List.getElem?_eq_none aa];decide
  ·subst he;rfl
def ach(os:Os){args:Array AS}:laidMetH Tryz.prog tw ((World.doorLaid Tryz.prog 400 os).forCall (λ_ _=>0) ⟨#[],args,[]⟩).memory:=
 laidMetH_of_parts3 (fuel:=8) (laidMet_of_run' 8 aj aj) aj aj
def VX(os:Os)(f:os.Started)(H:Type)(enc:SL×AS->H):
  ReturnsInLeavingWide {} Tryz.checked os 3 .any (λw args=>(Rows.fnDecodePictureSpec.pre enc Tryz.prog Tryz.f3 [] Ba w args/\laidMetH Tryz.prog tw w)/\sizedMet enc Tryz.prog Tryz.f3 (OpenSpec.ofChange Rows.fnDecodePictureSpec) Ba w args)
   (Rows.fnDecodePictureSpec.post enc Tryz.prog Tryz.f3 Ba AT Ba Ba):=by
 refine returnsInLeavingWide_of_good (C:=Tryz.checked) acg f
  (ChangeSpec.witness_shaped (enc:=enc) (C:=Tryz.checked) (os:=os) (X:=λw _=>laidMetH Tryz.prog tw w) Ba (World.doorLaid Tryz.prog 400 os) #[.slice none 0 0] 8 rfl (World.shaped_of_RefB aj aj) aj aj aj (ach os)) ?_
 intro w tape i _ r _ Q s _;obtain⟨_,_,_,R,u,_,_,_,_,a⟩:=Q;have e:R=Tryz.f3:=aH (u.symm.trans func3);subst e;obtain⟨⟨⟨k,G,I,S,_⟩,T⟩,_⟩:=s;have J:=DataW.Whole.of_heap (w':=w.forCall tape i) aC S;have V:laidMetH Tryz.prog tw (w.forCall tape i):=T.of_heap aC;generalize w.forCall tape i=W at r a J V;obtain⟨K,args,vars⟩:=i;simp only at a J⊢;obtain⟨a1,a2,hs⟩:=afE r V;have l:∀(j:Nat) t v,Tryz.f3.params[j]?=some t->args[j]?=some v->Value.okWide Tryz.prog W .any w.heap.size t v:=a;have Z:=J;obtain⟨p,q,y,z,rfl,Cj,hnd⟩:=Z;have hA:DataW.TrodAll enc Tryz.prog W 0 (λ_=>AT) AT Tryz.f3.params.toList args.toList k p:=y;have hV:DataW.TrodVars enc Tryz.prog W (λ_=>AT) [AG,vI,nj] G q:=z;rw[params3] at hA l;obtain⟨v0,vs0,d0,ds0,p0,q0,ahe,rfl,rfl,h0,r0⟩:=trodAll_cons hA;obtain⟨rfl,rfl,rfl⟩:=trodAll_nil r0;obtain rfl:args=#[v0]:=by cases args;simp_all
 have hVB:∀W2,Below W.heap.size W W2->DataW.TrodVars enc Tryz.prog W2 (λb=>decide (b<W.heap.size)) [AG,vI,nj] G q:=λW2 hb=>Below.trodVars Qe hb aj hV
 obtain⟨gv0,tv0,ahO,L,dv0,B,pv0,qv0,rfl,D⟩:∃(g:Nat)(t:SL)(E:Array AS)(fuel:Nat)(d:DataW H)(k:List (DataW H))(p q:List MemPlace),G=d::k/\DataW.TrodVars enc Tryz.prog W (λ_=>AT) [vI,nj] k q:=by cases G with|nil=>exact hV.elim|cons d k=>obtain⟨g,t,E,fuel,p,q,_,_,_,_,h,_⟩:=hV;exact⟨g,t,E,fuel,d,k,p,q,rfl,h⟩
 obtain⟨gv1,tv1,ahP,N,dv1,dr1,pv1,qv1,rfl,hV2⟩:∃(g:Nat)(t:SL)(E:Array AS)(fuel:Nat)(d:DataW H)(k:List (DataW H))(p q:List MemPlace),B=d::k/\DataW.TrodVars enc Tryz.prog W (λ_=>AT) [nj] k q:=by cases B with|nil=>exact D.elim|cons d k=>obtain⟨g,t,E,fuel,p,q,_,_,_,_,h,_⟩:=D;exact⟨g,t,E,fuel,d,k,p,q,rfl,h⟩
 obtain⟨gv2,tv2,ahQ,P,dv2,pv2,rfl,_,_,_,_,_⟩:=trodVars_one hV2;have k0:=h0;have lt0:∀x∈p0,x.block<W.heap.size:=by obtain⟨m,hm⟩:=k0;exact DataW.trod_lt m _ _ _ hm
 obtain⟨_,_,_,rfl⟩:=okWide_slice underlying22 (l 0 22 v0 rfl rfl);obtain⟨n0,wY⟩:=h0;obtain⟨A,c,xs,e0,hx⟩:=aay wY;cases e0;clear y a z;obtain⟨M,last,o,w',t',g1,g2,g3,g4⟩:=VZ hs (abY V) hx;refine⟨M,last,o,w',t',g1,g2,g3,g4.mono λv⟨he,F,dg,hold⟩=>?_⟩;subst he;have n:Below W.heap.size W {w' with tape:=W.tape}:=⟨F.1,rfl,F.2,dg,hold⟩
 have hp:Rows.fnDecodePictureSpec.post enc Tryz.prog Tryz.f3 Ba AT Ba Ba W _ (.bool AT) {w' with tape:=W.tape}:=
  ⟨_,_,_,[],_,_,J,trodAll_mk1 (shut_bool underlying4 _),trodAll_cons_mk (Below.trod Qe aj (of_decide_eq_true aj) k0 n lt0) trodAll_mk0,hVB _ n,n.frame _,λh=>by cases h⟩
 have hb:=ChangeSpec.post_blind hp;exact hb
def V0:Rows.FnDecodePictureSaid:=
 OpenClaim.holds_of_wide_leaving 3 Tryz.f3 rfl rfl rfl rfl rfl rfl rfl ⟨rfl,rfl,rfl,rfl,rfl⟩ rfl rfl rfl rfl rfl aj func3 adR
  (of_decide_eq_true aj) (by unfold Func.isWrapper;first|(rw[if_pos (by decide+kernel)];kernel_rfl)|(rw[if_neg (by decide+kernel)];exact⟨rfl,rfl⟩))
  (λos a H b _=>VX os a H b)
def afO:AT=Rows.fnDecodePictureRow.goesBy Tryz.prog:=aj
def aaz{g:Looks}{p:Pinned}{s:OpenSpec}{c:OpenClaim}{kinds:List LaidKind}{a:Bool}(b:Bool×String)(d:Bool)
  (hc:c.holds p s)(hw:c.wfByText s=AT)(e:c.laidByTextAt g p kinds a)
  (i:c.start=.entering)(k:c.noBlocks=Ba/\c.again=Ba)(hm:p.checked.prog.mainIs=some (b.1,b.2.toList))(l:(!b.1&&b.2.isEmpty&&!d)=Ba)
  (m:∀f fn,p.checked.prog.funcNamed c.func=some f->p.checked.prog.funcs[f]?=some fn->d=p.checked.prog.looks []/\∀(j:Nat) t,fn.params[j]?=some t->p.checked.prog.wantsStandIn t=Ba)
  (n:AT=c.goesBy p.checked.prog):
  Claim7.holds p (.plain s) {stood:={row:=c,standIns:=[],harness:=b,looks:=d},kinds:=[],alts:=[],goes:=AT,laidByText:=AT,laidKinds:=kinds,laidTests:=a,laidLooks:=g}:=by
 have o:∀r:OpenClaim,Claim7.isSixth {stood:={row:=r,standIns:=[],harness:=b,looks:=d},kinds:=[]}=Ba:=λr=>by simpa[Claim7.isSixth] using l
 refine⟨Claim7.tied_new_at g kinds a (Claim7.new_of_sixth hc b d i k hm (o c) m) hw,λD q=>?_,e,(λh=>by cases h),n⟩;exact absurd q (List.not_mem_nil)
end
end Go.Proofs.Q0
namespace Go.Proofs.YtnbpokndlaebbaaGreatDoor
open Go.Proofs.Tryz Go.Proofs.Q0
open Go.ChangeShapes Go.WideShapes Go.ChangeAt Go.RowKit Go.Joins Go.Deep Go.Conc aM Go.Proofs.Q0.Open
theorem FnDecodePicture_holds:Rows.FnDecodePictureCardSaid:=
 aaz (AT, "066fc8af62863c79b231ee37d3b07c353f4a7d5d37c857f8b24acef3432a14e7") AT V0 aj fnDecodePicture_row_tie rfl ⟨rfl,rfl⟩ aj rfl
  (λf fn hf WF=>by
   obtain rfl:f=3:=aH ((show Tryz.prog.funcNamed "loop.example/videocodec/laws.FnDecodePicture" =some 3 by kernel_rfl).symm.trans hf)|>.symm;obtain rfl:fn=Tryz.f3:=(aH (func3.symm.trans WF)).symm
   exact⟨aj,λj t ht=>by
    rw[params3] at ht;have hm:t∈[22]:=by simpa using lB ht
    have qP:([22].all λu=>!Tryz.prog.wantsStandIn u)=AT:=aj;exact(show Tryz.prog.wantsStandIn t=Ba by simpa using gW.1 qP t hm)⟩)
  afO
end Go.Proofs.YtnbpokndlaebbaaGreatDoor
