/- AuditSees: for every input that holds together at most 1048576 values and letters the law returns true, and changes nothing that was there. No other condition. -/
import Derived.Test.YtmpkkaknjkffpaaGreatDoorAuditSeesK9
import Derived.Test.YtmpkkaknjkffpaaGreatDoorCards
import Derived.Test.YtmpkkaknjkffpaaGreatDoorTie
import Derived.Deep.DeepHandedRow
import Derived.Lib.LaidTab
import Derived.SevenTiedAt
import Derived.ChangeMaps5
import Derived.Lib.LaidU8
namespace Go.Proofs.YtmpkkaknjkffpaaGreatDoor.auditSees
set_option linter.all false
set_option maxHeartbeats 4000000
set_option maxRecDepth 20000
open Go.ChangeShapes Go.ChangeMaps Go.WideShapes Go.ChangeAt Go.RowKit Go.Proofs.Tryz

theorem own:ownKnob Tryz.prog.godebug=none:=aJ
theorem laidOut:laidOutB Tryz.prog=true:=aJ
theorem aCp{W:World}{g o:Nat}{v:Value}(hM0:W.cell? ⟨g,o,none⟩=some v):g < W.heap.size:=by
 rcases Nat.lt_or_ge g W.heap.size with h | h
 .exact h
 .have h2:W.cell? ⟨g,o,none⟩=none:=by simp[World.cell?,Array.getElem?_eq_none h]
  cases h2.symm.trans hM0
theorem aYf{a:Int}(h:(Lit.int .u64 a).wf=true):0<=a/\a < 18446744073709551616:=by
 simp[Lit.wf,IntKind.min,IntKind.max,IntKind.signed,IntKind.bits] at h;omega
theorem aV7:Tryz.prog.cellsOf 3=1:=aJ
theorem params:∀t∈Tryz.f4.params.toList,Tryz.prog.readableRec t=true/\t < Tryz.prog.types.size:=by
 have aEM:Tryz.prog.readableRec 22=true/\22 < Tryz.prog.types.size:=⟨by kernel_rfl,of_decide_eq_true aJ⟩
 have aEO:Tryz.prog.readableRec 39=true/\39 < Tryz.prog.types.size:=⟨by kernel_rfl,of_decide_eq_true aJ⟩
 have aEN:Tryz.prog.readableRec 3=true/\3 < Tryz.prog.types.size:=⟨by kernel_rfl,of_decide_eq_true aJ⟩
 rw[Tryz.params4];intro t ht;simp at ht;rcases ht with rfl | rfl | rfl
 .exact aEM
 .exact aEO
 .exact aEN
theorem Zs:Tryz.prog.globalNamed "catnap/quiet.letters" =some 0:=aJ
theorem aSH:(Tryz.prog.globals[0]?).map (·.type)=some 336:=aJ
theorem aV9:Tryz.prog.cellsOf 336=4:=aJ
theorem aV8:Tryz.prog.cellsOf 5=1:=aJ
theorem table{W:World}(h:laidMetH Tryz.prog Rows.auditSeesUptoRow.laid W):Lib.TabIs Tryz.prog W "catnap/quiet.letters" .u8 [114,97,115,100]:=
 Lib.tabIs_of_head (rest:=[]) Zs aSH Tryz.underlying336 Tryz.underlying5 aV8 aV9 h
theorem aRA{W:World}(h:laidMetH Tryz.prog Rows.auditSeesUptoRow.laid W):gJ (all W):=by
 have t:=table h
 have c0:=t.cell Zs 0 aE
 have c1:=t.cell Zs 1 aE
 have c2:=t.cell Zs 2 aE
 have c3:=t.cell Zs 3 aE
 intro i v hv
 have hi:i=0\/i=1\/i=2\/i=3:=by
  have h4:=(List.getElem?_eq_some_iff.1 hv).1
  simp at h4;omega
 rcases hi with rfl | rfl | rfl | rfl
 .simp at hv;subst hv;exact⟨aCp c0,c0⟩
 .simp at hv;subst hv;exact⟨aCp c0,c1⟩
 .simp at hv;subst hv;exact⟨aCp c0,c2⟩
 .simp at hv;subst hv;exact⟨aCp c0,c3⟩

set_option maxRecDepth 100000 in
theorem contract(H:Type)(enc:TypeId×Value->H)(W:World)(base:Nat)(args:Array Value)(ds gs:List (DataW H))(before:List MemPlace)
  (hval:∀(j:Nat) t v,Tryz.f4.params[j]? =some t->args[j]? =some v->Value.okWide Tryz.prog W .any base t v)
  (hW:DataW.Whole enc Tryz.prog Tryz.f4.params.toList Rows.auditSeesSpec.vars false W args.toList ds gs before) (hL:laidMetH Tryz.prog Rows.auditSeesUptoRow.laid W) (hSh:W.ShapedOpen Tryz.prog) (hk:Rows.uptoSmall H (ds++gs)=true):
  Calls Tryz.prog 4 args W fun e W'=>∃v,e=.returned v/\Rows.auditSeesSpec.post enc Tryz.prog Tryz.f4 false true false false W args v W':=by
 have hW':=hW
 obtain⟨p,q,hA,hV,rfl,hfz,hnd⟩:=hW
 have hpp:=Tryz.params4
 rw[hpp] at hA hval;obtain⟨v0,vs0,d0,ds0,p0,q0,hargs,rfl,rfl,h0,r0⟩:=trodAll_cons hA;obtain⟨v1,vs1,d1,ds1,p1,q1,rfl,rfl,rfl,h1,r1⟩:=trodAll_cons r0;obtain⟨v2,vs2,d2,ds2,p2,q2,rfl,rfl,rfl,h2,r2⟩:=trodAll_cons r1;obtain⟨rfl,rfl,rfl⟩:=trodAll_nil r2;obtain rfl:args=#[v0,v1,v2]:=by cases args;simp_all
 obtain⟨A0,n0,c0,zs0,rfl,hs0,hi0,hn0,hm0⟩:=aQy Tryz.underlying22 Tryz.underlying3 aV7 (hval 0 22 v0 rfl rfl) h0;obtain⟨A1,n1,c1,ac1,rfl,hs1,ho1,Nc,hm1⟩:=aQz (hval 1 39 v1 rfl rfl) h1
 have hb1:n1<=2000000:=Nat.le_trans (aVM hk (List.mem_append_left _ (by simp)) (aVI Tryz.underlying39 h1)) aE
 obtain⟨a2,rfl,rfl,rfl,w2⟩:=open_int Tryz.underlying3 (hval 2 3 v2 rfl rfl) h2;refine(aVV A0 n0 c0 zs0 A1 n1 c1 ac1 a2 W (aLV hs0) hi0 hn0 hm0 (aLV hs1) ho1 Nc hb1 (Dz w2) (aRA hL)).mono fun e W' ⟨he,hg⟩=>?_;exact⟨_,he,aPX laidOut params aJ Tryz.underlying4 rfl hW' rfl hg⟩

def aNO:Array Value:=#[.int .u8 114,.int .u8 97,.int .u8 115,.int .u8 100]
noncomputable def aE0(os:Os):World:=
 {World.holding Tryz.prog os ⟨#[],#[],[]⟩ with heap:=((World.holding Tryz.prog os ⟨#[],#[],[]⟩).heap).modify 0 fun | .cells _ t frozen=>.cells aNO t frozen | o=>o}
set_option maxRecDepth 100000 in
theorem aRC(os:Os):laidMet Tryz.prog Rows.auditSeesUptoRow.laid ((aE0 os).forCall (fun _ _=>0) ⟨#[],#[.slice none 0 0,.slice none 0 0,.int .i64 0],[]⟩).memory:=
 laidMet_of_run' 8 aJ aJ
theorem reads(os:Os){H:Type}(enc:TypeId×Value->H):∃places,DataW.whole enc Tryz.prog ((aE0 os).forCall (fun _ _=>0) ⟨#[],#[.slice none 0 0,.slice none 0 0,.int .i64 0],[]⟩).memory Tryz.f4.params.toList Rows.auditSeesSpec.vars false #[.slice none 0 0,.slice none 0 0,.int .i64 0].toList 8=some ([.nil,.nil,.lit (.int .i64 0)],[],places):=
 ⟨[],by kernel_rfl⟩

set_option maxRecDepth 100000 in
theorem lifted(os:Os)(started:os.Started)(H:Type)(enc:TypeId×Value->H)(F:Stop.Interp):
  ReturnsInHanded {} Tryz.checked os 4 .any ((Rows.OpenSpec.upto Rows.auditSeesSpec).preRow enc Tryz.prog Tryz.f4 Rows.auditSeesUptoRow.domain false Rows.auditSeesUptoRow.laid) (((Rows.OpenSpec.upto Rows.auditSeesSpec).at F).post enc Tryz.prog Tryz.f4 false true false false):=by
 obtain⟨places,hx⟩:=reads os enc
 refine returnsInHanded_of_row (C:=Tryz.checked) (s:=Rows.OpenSpec.upto Rows.auditSeesSpec) own started aJ func4
  (witness_row_at (enc:=enc) (C:=Tryz.checked) false (aE0 os) #[.slice none 0 0,.slice none 0 0,.int .i64 0] rfl aJ aJ aJ
   (OpenSpec.preRow_of_cond 8 hx aJ (fun k hk=>by cases hk;kernel_rfl) aJ (aRC os))) ?_
 intro W base args ds gs before hval hW _ aSt _ hL hSh _;exact contract H enc W base args ds gs before hval hW hL hSh (aSt _ rfl)

theorem mU{a b:Bool}(h:a=true)(k:b=true):(a&&b)=true:=by rw[h,k];rfl
theorem aTo:(Rows.auditSeesUptoRow.inPlace==Tryz.pinned.checked.prog.inPlace 4)=true:=aJ
theorem aTl:(Rows.auditSeesUptoRow.unfollowed==Tryz.pinned.checked.prog.unfollowed 4)=true:=aJ
theorem aTm:(Rows.auditSeesUptoRow.recurses==Tryz.pinned.checked.prog.recurses 4)=true:=aJ
theorem aTn:(Rows.auditSeesUptoRow.named==Tryz.pinned.checked.prog.varsNamed 4)=true:=aJ
theorem closed:joinedFacts Tryz.pinned.checked.prog 4 Tryz.f4 (Rows.OpenSpec.upto Rows.auditSeesSpec).bare Rows.auditSeesUptoRow=true:=(mU (mU (mU (mU (mU (mU (mU (mU (mU (mU (mU (mU (mU (mU (mU (mU (mU (mU (mU (mU (mU (mU (mU (mU (mU (mU (mU (mU (mU (mU (mU aJ aJ) aJ) aJ) aJ) aJ) aJ) aJ) aJ) aTo) aTl) aTm) aTn) aJ) aJ) aJ) aJ) aJ) aJ) aJ) aJ) aJ) aJ) aJ) aJ) aJ) aJ) aJ) aJ) aJ) aJ) aJ)
theorem said:Rows.AuditSeesUptoSaid:=
 OpenClaim.holds_of_cond 4 Tryz.f4 rfl rfl rfl rfl rfl rfl rfl ⟨rfl,rfl,rfl,rfl,rfl⟩ rfl rfl rfl rfl rfl aJ func4 closed
  (of_decide_eq_true aJ) (by unfold Func.isWrapper;first | (rw[if_pos (by decide+kernel)];kernel_rfl) | (rw[if_neg (by decide+kernel)];exact⟨rfl,rfl⟩))
  (fun os started H enc _ F=>by rw[OpenClaim.pre_eq_preRow];exact lifted os started H enc F)

theorem plain(f:FuncId)(fn:Func)(hf:Tryz.pinned.checked.prog.funcNamed "catnap/catnaplaw20.AuditSees" =some f)(hfn:Tryz.pinned.checked.prog.funcs[f]? =some fn):
  false=Tryz.pinned.checked.prog.looks []/\∀(j:Nat) t,fn.params[j]? =some t->Tryz.pinned.checked.prog.wantsStandIn t=false:=by
 obtain rfl:f=4:=Option.some.inj ((show Tryz.prog.funcNamed "catnap/catnaplaw20.AuditSees" =some 4 by kernel_rfl).symm.trans hf)|>.symm;obtain rfl:fn=Tryz.f4:=(Option.some.inj (func4.symm.trans hfn)).symm;refine⟨by kernel_rfl,fun j t ht=>?_⟩
 have aEM:Tryz.prog.wantsStandIn 22=false:=aJ
 have aEO:Tryz.prog.wantsStandIn 39=false:=aJ
 have aEN:Tryz.prog.wantsStandIn 3=false:=aJ
 rw[Tryz.params4] at ht
 have hm:=Array.mem_of_getElem? ht
 simp at hm;rcases hm with rfl | rfl | rfl
 .exact aEM
 .exact aEO
 .exact aEN

theorem card:Rows.AuditSeesUptoCardSaid:=
 Claim7.holds_tied_plain_at .later [] _ _ _ _ said (fun _ h=>by cases h) aJ (fun _ h=>by cases h) auditSeesUpto_row_tie rfl ⟨rfl,rfl⟩ aJ rfl plain aJ
end Go.Proofs.YtmpkkaknjkffpaaGreatDoor.auditSees
