/- What the functions come to in plain data, with proofs, and what that answers. -/
import Derived.Test.YtcljiciefhabgaaDoorJListRemarks1
import Derived.Test.YtcljiciefhabgaaDoorRows
import Derived.Test.YtcljiciefhabgaaDoorCards
import Derived.Test.YtcljiciefhabgaaDoorTie
import Derived.WalkKit
import Derived.ProofKit
import Derived.ShutString
import Derived.ChangeOld
import Derived.SizedLaws
import Derived.LaidMore
import Derived.Stop.Joined
import Derived.Stop.LaidErr
import Derived.SevenTiedAt
import Derived.Lib.SmallJoins
import Derived.MakeChecks
import Derived.Lay
import Derived.Deep.DeepHandedRow
import Derived.ChangeMaps5
section
set_option linter.unusedVariables false
set_option linter.unusedSimpArgs false
namespace Go.Proofs.YtcljiciefhabgaaDoor.listRemarks
open Go Go.Proofs.YtcljiciefhabgaaDoor.Eng Go.ChangeShapes Go.WideShapes Go.ChangeAt Go.RowKit Go.Joins Go.Deep
open Go.ChangeMaps (open_string shut_string)
theorem own:ownKnob Tryd.prog.godebug=none:=by kernel_rfl
theorem laidOut:laidOutB Tryd.prog=true:=by kernel_rfl
abbrev laidL:List (String×DataW Unit):=[("math/bits.deBruijn32tab",Rows.laid_math_bits_deBruijn32tab),("math/bits.deBruijn64tab",Rows.laid_math_bits_deBruijn64tab),("internal/strconv.uint64pow10",Rows.laid_internal_strconv_uint64pow10),("unicode/utf8.acceptRanges",Rows.laid_unicode_utf8_acceptRanges),("unicode/utf8.first",Rows.laid_unicode_utf8_first)]
theorem door_met (os:Os) (args:Array Value):laidMetH Tryd.prog laidL ((World.laidAll Tryd.prog os laidL).forCall (fun _ _=>0) ⟨#[],args,[]⟩).memory:=by
 rw [MakeChecks.laidMetH_plain _ _ _ (by kernel_rfl)]; exact laidMet_laidAll _ (by kernel_rfl) (by kernel_rfl)
theorem laid_tab:(Rows.laid_internal_strconv_uint64pow10:DataW Unit)=Lib.tabData .u64 Lib.pow10Tab:=by rfl
theorem of_laid {W:World} (h:laidMetH Tryd.prog laidL W):Lib.TabIs Tryd.prog W "internal/strconv.uint64pow10" .u64 Lib.pow10Tab:=by
 rw [MakeChecks.laidMetH_plain _ _ _ (by kernel_rfl)] at h
 have h':=h.tail.tail
 rw [laid_tab] at h'
 exact Lib.tabIs_of_head globN (by kernel_rfl) Tryd.underlying134 Tryd.underlying104 (by kernel_rfl) (by kernel_rfl) h'
theorem bulk_str {H:Type} (bs:List UInt8):Rows.uptoBulk (DataW.lit (H:=H) (.string bs))=bs.length+1:=by simp [Rows.uptoBulk]
set_option maxRecDepth 100000 in
set_option maxHeartbeats 8000000 in
theorem lifted (os:Os) (started:os.Started) (H:Type) (enc:TypeId×Value→H) (F:Stop.Interp) :
  ReturnsInHanded {} Tryd.checked os 5 .any ((Rows.OpenSpec.upto Rows.listRemarksSpec).preRow enc Tryd.prog Tryd.f5 Rows.listRemarksUptoRow.domain false Rows.listRemarksUptoRow.laid) (((Rows.OpenSpec.upto Rows.listRemarksSpec).at F).post enc Tryd.prog Tryd.f5 false true false false):=by
 have hx:∃ places,DataW.whole enc Tryd.prog ((World.laidAll Tryd.prog os laidL).forCall (fun _ _=>0) ⟨#[],#[.string ByteArray.empty,.string ByteArray.empty,.int .i64 0],[]⟩).memory Tryd.f5.params.toList Rows.listRemarksSpec.vars false #[.string ByteArray.empty,.string ByteArray.empty,.int .i64 0].toList 8=some ([.lit (.string []),.lit (.string []),.lit (.int .i64 0)],[],places):=⟨[],by kernel_rfl⟩
 obtain ⟨places,hx⟩:=hx
 have hok:Input.okWideB Tryd.checked.prog ((World.laidAll Tryd.prog os laidL).forCall (fun _ _=>0) ⟨#[],#[.string ByteArray.empty,.string ByteArray.empty,.int .i64 0],[]⟩) 5 ⟨#[],#[.string ByteArray.empty,.string ByteArray.empty,.int .i64 0],[]⟩=true:=by kernel_rfl
 refine returnsInHanded_of_row (C:=Tryd.checked) (s:=(Rows.OpenSpec.upto Rows.listRemarksSpec)) own started (by kernel_rfl) Tryd.func5
  ⟨(World.laidAll Tryd.prog os laidL),fun _ _=>0,⟨#[],#[.string ByteArray.empty,.string ByteArray.empty,.int .i64 0],[]⟩,World.laidAll_os _ _ _,World.shaped_of_ZipB (by kernel_rfl) (by kernel_rfl),(Input.okWide_of_okWideB (base:=0) hok).1,(Input.okWide_of_okWideB hok).2,OpenSpec.preRow_of_cond 8 hx (by kernel_rfl) (fun k hk=>by cases hk; kernel_rfl) (by kernel_rfl) (door_met os _),by
   simp only [Assume.holds]
   exact ⟨by simp,by simp,fun _=>Modest.zero,by simp,by simp⟩⟩ ?_
 intro W base args ds gs before hval0 hW hcnd hcond hsz0 hL _ _
 obtain ⟨G,hG⟩:=gs_of (of_laid hL)
 suffices key:Calls Tryd.prog 5 args W fun e W'=>∃ v,e = .returned v∧Rows.listRemarksSpec.post enc Tryd.prog Tryd.f5 false true false false W args v W' from key
 have hsz:(DataW.weightsEach Tryd.prog (Tryd.f5.params.toList++Rows.listRemarksSpec.plain.varTypes Tryd.prog) (ds++gs)).all (·≤reachBytes)=true:=hsz0
 have hval:∀ (j:Nat) t v,Tryd.f5.params[j]? = some t→args[j]? = some v→Value.okWide Tryd.prog W .any base t v:=hval0
 have hW':=hW
 obtain ⟨p,q,hA0,hV,rfl,hfz,hnd⟩:=hW
 have hA:DataW.TrodAll enc Tryd.prog W 0 (fun _=>true) true Tryd.f5.params.toList args.toList ds p:=hA0
 rw [Tryd.params5] at hA hval hsz
 obtain ⟨v0,vs0,d0,ds0,p0,q0,hargs,rfl,rfl,h0,r0⟩:=trodAll_cons hA
 obtain ⟨v1,vs1,d1,ds1,p1,q1,rfl,rfl,rfl,h1,r1⟩:=trodAll_cons r0
 obtain ⟨v2,vs2,d2,ds2,p2,q2,rfl,rfl,rfl,h2,r2⟩:=trodAll_cons r1
 obtain ⟨rfl,rfl,rfl⟩:=trodAll_nil r2
 obtain rfl:args = #[v0,v1,v2]:=by cases args; simp_all
 obtain ⟨rfl,rfl⟩:=trodVars_none hV
 have k0:=h0
 have lt0:∀ x∈p0,x.block < W.heap.size:=by obtain ⟨m,hm⟩:=k0; exact DataW.trod_lt m _ _ _ hm
 obtain ⟨s0,es0,ed0,_,_⟩:=open_string Tryd.underlying9 (hval 0 9 v0 rfl rfl) k0
 obtain ⟨a0,ha0,va0⟩:=AK.open (ρ:=rho0) akListRemarks0 rfl (by kernel_rfl) (hval 0 9 v0 rfl rfl) (Exists.elim h0 fun f hf=>⟨f,_,hf⟩)
 have k1:=h1
 have lt1:∀ x∈p1,x.block < W.heap.size:=by obtain ⟨m,hm⟩:=k1; exact DataW.trod_lt m _ _ _ hm
 obtain ⟨s1,es1,ed1,_,_⟩:=open_string Tryd.underlying9 (hval 1 9 v1 rfl rfl) k1
 obtain ⟨a1,ha1,va1⟩:=AK.open (ρ:=rho0) akListRemarks1 rfl (by kernel_rfl) (hval 1 9 v1 rfl rfl) (Exists.elim h1 fun f hf=>⟨f,_,hf⟩)
 have k2:=h2
 have lt2:∀ x∈p2,x.block < W.heap.size:=by obtain ⟨m,hm⟩:=k2; exact DataW.trod_lt m _ _ _ hm
 obtain ⟨a2,ha2,va2⟩:=AK.open (ρ:=rho0) akListRemarks2 rfl (by kernel_rfl) (hval 2 3 v2 rfl rfl) (Exists.elim h2 fun f hf=>⟨f,_,hf⟩)
 have hb0:Rows.uptoBulkAll _≤1048576:=of_decide_eq_true (hcond _ rfl)
 simp only [List.cons_append,List.nil_append,List.append_nil,Rows.uptoBulkAll] at hb0
 have b0:ByteArray.size a0≤1048576:=by
  have q:VR _ _ _ (.c (.string a0)) v0:=va0
  rw [es0] at q
  have q1:(a0:ByteArray)=s0:=by cases q; rfl
  have q2:Rows.uptoBulk d0=s0.data.toList.length+1:=by rw [ed0,bulk_str]
  have q3:s0.size=s0.data.toList.length:=rfl
  rw [q1,q3]; omega
 have b1:ByteArray.size a1≤1048576:=by
  have q:VR _ _ _ (.c (.string a1)) v1:=va1
  rw [es1] at q
  have q1:(a1:ByteArray)=s1:=by cases q; rfl
  have q2:Rows.uptoBulk d1=s1.data.toList.length+1:=by rw [ed1,bulk_str]
  have q3:s1.size=s1.data.toList.length:=rfl
  rw [q1,q3]; omega
 clear hA0 hval0 hsz0 hsz
 have hk:=pureListRemarks a0 ha0 b0 a1 ha1 b1 a2 ha2
 refine (law_calls Iq09_ok (akListRemarks0.DV a0,akListRemarks1.DV a1,akListRemarks2.DV a2,()) hk W hG (cs:=[v0,v1,v2]) ⟨va0,va1,va2,trivial⟩).mono fun e W' ⟨he,bel⟩=>?_
 subst he
 exact ⟨_,rfl,_,_,_,[],_,[],hW',trodAll_mk1 (shut_bool Tryd.underlying4 _),(trodAll_cons_mk (Below.trod laidOut (by kernel_rfl) (of_decide_eq_true (by kernel_rfl)) k0 bel lt0) (trodAll_cons_mk (Below.trod laidOut (by kernel_rfl) (of_decide_eq_true (by kernel_rfl)) k1 bel lt1) (trodAll_cons_mk (Below.trod laidOut (by kernel_rfl) (of_decide_eq_true (by kernel_rfl)) k2 bel lt2) trodAll_mk0))),rfl,bel.frame _,fun h=>by cases h⟩
end Go.Proofs.YtcljiciefhabgaaDoor.listRemarks
end
