/- Joined of: Gen155, RowTwistParses. -/
import Derived.Test.YthhbibpaeonecaaGreatDoorPartF
import Derived.Test.YthhbibpaeonecaaGreatDoorPartG
import Derived.Test.YthhbibpaeonecaaGreatDoorCards
import Derived.Test.YthhbibpaeonecaaGreatDoorTie
import Derived.Test.YthhbibpaeonecaaGreatDoorPartA
namespace Go.Proofs.YthhbibpaeonecaaGreatDoor
open Go.RowKit

def cKnP:ConT:=fun args _ _=>match args with
  | []=>some (.leaf (.so (.vc (.cb true (some true)))) 0 0)
  | _=>none
theorem cKnP_ok {I:World→Prop} (hI:∀ w,I w→Tab w):ConOK Tryz.prog I 6 cKnP:=by
  intro args E n w T hw _ hT _
  unfold cKnP at hT
  split at hT
  · cases hT
    exact (known_t w (hI w hw)).mono fun e w' he=>val_holds he ⟨rfl,fun v hv=>by cases hv;rfl⟩
  · cases hT
/-- how the regions that draw their order are run -/
noncomputable def tabTp:List (Nat × List (Nat × Ent)):=[(5,[(18,.ord [(true,0),(true,2),(false,1),(true,3),(true,4),(true,5),(true,7),(false,6),(true,8),(true,9),(true,10)] [])]),
 (24,[]),
 (25,[]),
 (26,[]),
 (27,[]),
 (28,[]),
 (29,[]),
 (39,[(4,.ord [(true,0),(true,1),(true,2),(true,3),(true,4),(true,5),(false,6),(true,7)] [])]),
 (48,[(3,.ort [(true,0),(true,1),(true,2),(false,3),(false,4),(true,5)] [2,3] [([3],2),([4],3)]),(4,.ord [(true,0),(true,1),(true,2),(true,3),(true,4),(true,5),(true,6),(true,7),(false,8),(false,9),(true,10)] [2,3])]),
 (49,[]),
 (50,[(5,.ord [(true,0),(true,1),(true,2),(true,3),(true,4),(true,5),(true,6),(true,7),(true,8),(true,9),(true,10),(true,11),(false,12),(true,13),(false,14)] [5])]),
 (76,[]),
 (110,[])]
noncomputable def conTp:List (Nat × ConT):=[(46,conRR 100000 (fun k m=>k+m+1) (fun a b=>a+b)),
 (61,conRR 100000 (fun k m=>k+m+1) (fun a b=>a - b)),
 (53,conRR 100000 (fun k m=>k+m) (fun a b=>a*b)),
 (89,cNeg),
 (42,cFrom),
 (45,cComp),
 (54,cSign),
 (35,cNumb),
 (79,cNum),
 (65,cDen),
 (41,cDiv),
 (66,cZFrom),
 (64,cZMul),
 (75,cZGcd),
 (77,cZDiv),
 (121,cPars 400),
 (6,cKnP),
 (23,cRed)]
noncomputable def sysTp:Sys:=⟨Tryz.prog,2,142,tabTp,conTp,fun w=>Tab w∧Mx w⟩
theorem sysTp_ok:sysTp.OK where
  mixed:=by kernel_rfl
  calls:=fun f h0 h1=>by
    have:(List.range 142).all (fun f=>Nat.blt f 2||okCall Tryz.prog f)=true:=by kernel_rfl
    have:=List.all_eq_true.1 this f (List.mem_range.2 h1)
    simp only [Bool.or_eq_true] at this
    exact this.resolve_left (fun e=>by have:=blt_of e;exact absurd h0 (by show ¬ 2≤f;omega))
  tab:=by
    have:tabTp.all (okTab Tryz.prog)=true:=by kernel_rfl
    exact fun x hx=>List.all_eq_true.1 this x hx
  lps:=lps_no (by kernel_rfl)
  con:=fun x hx=>by
    simp only [sysTp,conTp,List.mem_cons,List.not_mem_nil,or_false] at hx
    rcases hx with rfl | rfl | rfl | rfl | rfl | rfl | rfl | rfl | rfl | rfl | rfl | rfl | rfl | rfl | rfl | rfl | rfl | rfl
    · exact conRR_ok fun h1 h2 h3=>add_r h1 h2 h3
    · exact conRR_ok fun h1 h2 h3=>sub_r h1 h2 h3
    · exact conRR_ok fun h1 h2 h3=>mul_r h1 h2 h3
    · exact cNeg_ok
    · exact cFrom_ok
    · exact cComp_ok
    · exact cSign_ok
    · exact cNumb_ok fun w h=>h.1
    · exact cNum_ok
    · exact cDen_ok
    · exact cDiv_ok
    · exact cZFrom_ok
    · exact cZMul_ok
    · exact cZGcd_ok
    · exact cZDiv_ok
    · exact cPars_ok fun w h=>h.2
    · exact cKnP_ok fun w h=>h.1
    · exact cRed_ok fun w h=>h.2
  inv:=fun w w' h g=>⟨h.1.gr g,h.2.gr g⟩
def yesP:Lf:=.ret (.so (.vc (.cb true (some true))))
def le4 (X:List UInt8) (k:Lf):Lf:=.as (decide (X.length≤40)) true k
def gp:List (List UInt8)→Lf→Lf
  | [],k=>k
  | X::l,k=>le4 X (.as (ck2 X 40 !=0) false (gp l k))
def asR:Nat→Lf→Lf
  | 0,k=>k
  | n+1,k=>.as (rcmp 0 0 !=0) false (asR n k)
def tail1 (X:List UInt8):Lf:=.as (ck2 X 40 !=ck2 X 40) false (.as (ck2 X 40 !=ck2 X 40) false (.as (ck2 X 40 !=0) true (asR 12 (.ret (.so (.vc (.cb ((0:Int)==0) (some true))))))))
def er1 (pre:List (List UInt8)) (X:List UInt8) (k:Lf):Lf:=gp pre (le4 X (.as (ck2 X 40 !=0) true (.as (ck2 X 40 !=0) true k)))
noncomputable def eqT (l:List (List UInt8)):Bool:=sEq (l.map fun Y=>ratL (valR Y)) l
noncomputable def tpEnd (pre:List (List UInt8)) (X:List UInt8):Lf:=gp pre (le4 X (.br (ck2 X 40 !=0) (.as (ck2 X 40 !=0) true (er1 pre X (tail1 X)))
  (gp pre (le4 X (.as (ck2 X 40 !=0) false (.as ((0:Int) !=ck2 X 40) false (.as ((0:Int) !=ck2 X 40) false (.as (eqT (pre++[X])) true (.as (eqT (pre++[X])) true (.ret (.so (.vc (.cb (eqT (pre++[X])) (some true))))))))))))))
def tl2:List (List UInt8)→List (List UInt8)→List UInt8→Lf
  | [],pre,X=>er1 pre X (er1 pre X (tail1 X))
  | Y::l,pre,X=>.br (decide ((30:Int)<(Y.length:Int))) yesP (le4 Y (.as (ck2 X 40==0) false (tl2 l pre X)))
noncomputable def tl:List (List UInt8)→List (List UInt8)→List UInt8→Lf
  | [],pre,X=>tpEnd pre X
  | Y::l,pre,X=>.br (decide ((30:Int)<(Y.length:Int))) yesP (le4 Y (.br (ck2 X 40==0) (tl l (pre++[X]) Y) (tl2 l pre X)))
noncomputable def treeTp (X:List UInt8) (l:List (List UInt8)):Lf:=.br (decide ((30:Int)<(X.length:Int))) yesP (le4 X (tl l [] X))
theorem runTp (X0 X1 X2 X3 X4 X5:List UInt8):runF sysTp 5 [.so (.vg [.ct X0,.ct X1,.ct X2,.ct X3,.ct X4,.ct X5])] 0 0 (.s .e (.s .e (.s (.s .e (.s (.s .e (.s (.s .e (.s (.s .e (.s (.f (.f (.f (.f (.f (.s (.t (.f (.f (.f (.f (.f (.t (.t (.f (.f (.t (.f (.f (.f (.f (.f (.f (.f (.f (.f (.f (.f (.f .e))))))))))))))))))))))) (.f (.f (.f (.f (.f (.f (.f (.f (.t (.t .e)))))))))))))))) (.f (.f (.f (.f (.t (.t (.f (.f (.f (.f (.t (.t (.f (.f (.t (.f (.f (.f (.f (.f (.f (.f (.f (.f (.f (.f (.f .e))))))))))))))))))))))))))))) (.s .e (.f (.f (.f (.f (.t (.t (.f (.f (.f (.t (.t (.f (.f (.t (.f (.f (.f (.f (.f (.f (.f (.f (.f (.f (.f (.f .e))))))))))))))))))))))))))))) (.s .e (.f (.s .e (.f (.f (.f (.t (.t (.f (.f (.t (.t (.f (.f (.t (.f (.f (.f (.f (.f (.f (.f (.f (.f (.f (.f (.f .e))))))))))))))))))))))))))))) (.s .e (.f (.s .e (.f (.s .e (.f (.f (.t (.t (.f (.t (.t (.f (.f (.t (.f (.f (.f (.f (.f (.f (.f (.f (.f (.f (.f (.f .e))))))))))))))))))))))))))))) (.s .e (.f (.s .e (.f (.s .e (.f (.s .e (.f (.t (.t (.t (.t (.f (.f (.t (.f (.f (.f (.f (.f (.f (.f (.f (.f (.f (.f (.f .e))))))))))))))))))))))))))))))=some (treeTp X0 [X1,X2,X3,X4,X5]):=by kernel_rfl
def isTp (v:SV):Prop:=∀ X,v.den X=.bool true
theorem isTp_of {t:Bool} {d:Option Bool} (h:t=true):isTp (.so (.vc (.cb t d))):=fun _=>by rw [h];rfl
def GoodP (l:List (List UInt8)):Prop:=∀ X ∈ l,X.length≤40∧ck2 X 40=0
theorem gp_ok {k:Lf}:∀ {l:List (List UInt8)},GoodP l→LOK isTp k→LOK isTp (gp l k)
  | [],_,hk=>hk
  | X::l,h,hk=>⟨decide_eq_true (h X (by simp)).1,by rw [(h X (by simp)).2];rfl,gp_ok (fun Y hY=>h Y (by simp [hY])) hk⟩
theorem asR_ok {k:Lf} (hk:LOK isTp k):∀ n,LOK isTp (asR n k)
  | 0=>hk
  | n+1=>⟨by rw [rcmp_zero.2 rfl];rfl,asR_ok hk n⟩
theorem tail1_ok {X:List UInt8} (h:(ck2 X 40 !=0)=true):LOK isTp (tail1 X):=⟨by simp,by simp,h,asR_ok (show LOK isTp (.ret (.so (.vc (.cb ((0:Int)==0) (some true))))) from isTp_of rfl) 12⟩
theorem er1_ok {pre:List (List UInt8)} {X:List UInt8} {k:Lf} (hp:GoodP pre) (hl:X.length≤40) (h:(ck2 X 40 !=0)=true) (hk:LOK isTp k):LOK isTp (er1 pre X k):=gp_ok hp ⟨decide_eq_true hl,h,h,hk⟩
theorem eqT_ok {l:List (List UInt8)} (h:GoodP l):eqT l=true:=by
  have:(l.map fun Y=>ratL (valR Y))=l:=by
    induction l with
    | nil=>rfl
    | cons X l ih=>rw [List.map_cons,ih fun Y hY=>h Y (by simp [hY]),← valR_ok (h X (by simp)).2]
  unfold eqT
  rw [this]
  exact sEq_same _
theorem GoodP.snoc {l:List (List UInt8)} (h:GoodP l) {X:List UInt8} (hl:X.length≤40) (hc:ck2 X 40=0):GoodP (l++[X]):=fun Y hY=>by
  rcases List.mem_append.1 hY with hY | hY
  · exact h Y hY
  · rw [List.mem_singleton.1 hY];exact ⟨hl,hc⟩
theorem tpEnd_ok {pre:List (List UInt8)} {X:List UInt8} (hp:GoodP pre) (hl:X.length≤40):LOK isTp (tpEnd pre X):=by
  refine gp_ok hp ⟨decide_eq_true hl,fun h=>⟨h,er1_ok hp hl h (tail1_ok h)⟩,fun h=>?_⟩
  have hc:ck2 X 40=0:=by simpa using h
  have he:=eqT_ok (hp.snoc hl hc)
  exact gp_ok hp ⟨decide_eq_true hl,h,by rw [hc];rfl,by rw [hc];rfl,he,he,isTp_of he⟩
theorem le30 {Y:List UInt8} (h:decide ((30:Int)<(Y.length:Int))=false):Y.length≤40:=by
  have:=of_decide_eq_false h
  omega
theorem tl2_ok {pre:List (List UInt8)} {X:List UInt8} (hp:GoodP pre) (hl:X.length≤40) (h:(ck2 X 40 !=0)=true):∀ l,LOK isTp (tl2 l pre X)
  | []=>er1_ok hp hl h (er1_ok hp hl h (tail1_ok h))
  | Y::l=>⟨fun _=>isTp_of rfl,fun hY=>⟨decide_eq_true (le30 hY),by simpa using h,tl2_ok hp hl h l⟩⟩
theorem tl_ok:∀ (l:List (List UInt8)) {pre:List (List UInt8)} {X:List UInt8},GoodP pre→X.length≤40→LOK isTp (tl l pre X)
  | [],_,_,hp,hl=>tpEnd_ok hp hl
  | Y::l,_,X,hp,hl=>⟨fun _=>isTp_of rfl,fun hY=>⟨decide_eq_true (le30 hY),fun hc=>tl_ok l (hp.snoc hl (by simpa using hc)) (le30 hY),fun hc=>tl2_ok hp hl (by simpa using hc) l⟩⟩
theorem treeTp_ok (X:List UInt8) (l:List (List UInt8)):LOK isTp (treeTp X l):=⟨fun _=>isTp_of rfl,fun h=>⟨decide_eq_true (le30 h),tl_ok l (fun Y hY=>by cases hY) (le30 h)⟩⟩
theorem twist_parses (X0 X1 X2 X3 X4 X5:List UInt8) (rX0:(X0.length:Int)≤9223372036854775807) (rX1:(X1.length:Int)≤9223372036854775807) (rX2:(X2.length:Int)≤9223372036854775807) (rX3:(X3.length:Int)≤9223372036854775807) (rX4:(X4.length:Int)≤9223372036854775807) (rX5:(X5.length:Int)≤9223372036854775807) (w:World) (ht:Tab w) (hm:Mx w):
    Calls Tryz.prog 5 #[.agg #[.string ⟨X0.toArray⟩,.string ⟨X1.toArray⟩,.string ⟨X2.toArray⟩,.string ⟨X3.toArray⟩,.string ⟨X4.toArray⟩,.string ⟨X5.toArray⟩]] w fun e w'=>e=.returned (.bool true)∧Gr w w':=by
  refine (run_calls sysTp sysTp_ok (runTp X0 X1 X2 X3 X4 X5) (X:=envR []) ⟨ht,hm⟩ (okF1 (okA_ok ⟨⟨rfl,rX0⟩,⟨rfl,rX1⟩,⟨rfl,rX2⟩,⟨rfl,rX3⟩,⟨rfl,rX4⟩,⟨rfl,rX5⟩,trivial⟩)) (Post:=isTp) (treeTp_ok ..)).mono fun e w' he=>?_
  obtain ⟨v,X',n,rfl,g,_,_,hp⟩:=he
  exact ⟨by rw [hp],g⟩
end Go.Proofs.YthhbibpaeonecaaGreatDoor
namespace Go.Proofs.YthhbibpaeonecaaGreatDoor
open Go.ChangeShapes Go.WideShapes Go.ChangeAt Go.RowKit

theorem twistParses_table {W : World} (h : laidMetH Tryz.prog Rows.twistParsesRow.laid W) : Tab W :=
  Lib.tabIs_of_head (rest := _) (g := 5) (t := 227) (e := 148) (n := 20) (by kernel_rfl) (by kernel_rfl) (by kernel_rfl) (by kernel_rfl) (by kernel_rfl) (by kernel_rfl) ((show laidMet Tryz.prog Rows.twistParsesRow.laid W from (MakeChecks.laidMetH_plain _ _ _ (by kernel_rfl)) ▸ h).tail.tail)
theorem twistParses_maxlen {W : World} (h : W.ShapedOpen Tryz.prog) : Mx W :=
  Go.Proofs.cell_of_shapedOpen_int (zero := #[.int .i64 0]) (g := 0) (t := 3) h (of_decide_eq_true (by kernel_rfl)) (by kernel_rfl) rfl (by kernel_rfl) (by kernel_rfl) Tryz.underlying3
set_option maxRecDepth 100000 in
theorem twistParses_contract (H : Type) (enc : TypeId × Value → H) (W : World) (base : Nat) (args : Array Value) (ds gs : List (DataW H)) (before : List MemPlace)
    (hval : ∀ (j : Nat) t v, Tryz.f5.params[j]? = some t → args[j]? = some v → Value.okWide Tryz.prog W .any base t v)
    (hW : DataW.Whole enc Tryz.prog Tryz.f5.params.toList Rows.twistParsesSpec.vars false W args.toList ds gs before) (hL : laidMetH Tryz.prog Rows.twistParsesRow.laid W) (hsh : W.ShapedOpen Tryz.prog) :
    Calls Tryz.prog 5 args W fun e W' => ∃ v, e = .returned v ∧ Rows.twistParsesSpec.post enc Tryz.prog Tryz.f5 false true false false W args v W' := by
  have hW' := hW
  obtain ⟨p, q, hA0, hV, rfl, hfz, hnd⟩ := hW
  have hA : DataW.TrodAll enc Tryz.prog W 0 (fun _ => true) true Tryz.f5.params.toList args.toList ds p := hA0
  rw [Tryz.params5] at hA hval
  obtain ⟨v0, vs0, d0, ds0, p0, q0, hargs, rfl, rfl, h0, r0⟩ := trodAll_cons hA
  obtain ⟨rfl, rfl, rfl⟩ := trodAll_nil r0
  obtain rfl : args = #[v0] := by cases args; simp_all
  obtain ⟨rfl, rfl⟩ := trodVars_none hV
  obtain ⟨c0, rfl, z0, o0⟩ := open_mixed (ts := [61, 61, 61, 61, 61, 61]) [none, none, none, none, none, none] (by kernel_rfl) (by kernel_rfl) (by kernel_rfl) (by kernel_rfl) (hval 0 63 v0 rfl rfl)
  obtain ⟨n0_0, y0_0, l0_0⟩ := o0 0 none rfl
  obtain ⟨n0_1, y0_1, l0_1⟩ := o0 1 none rfl
  obtain ⟨n0_2, y0_2, l0_2⟩ := o0 2 none rfl
  obtain ⟨n0_3, y0_3, l0_3⟩ := o0 3 none rfl
  obtain ⟨n0_4, y0_4, l0_4⟩ := o0 4 none rfl
  obtain ⟨n0_5, y0_5, l0_5⟩ := o0 5 none rfl
  obtain rfl : c0 = #[.string ⟨n0_0.toArray⟩, .string ⟨n0_1.toArray⟩, .string ⟨n0_2.toArray⟩, .string ⟨n0_3.toArray⟩, .string ⟨n0_4.toArray⟩, .string ⟨n0_5.toArray⟩] := by
    apply Array.ext_getElem?; intro i
    rcases i with _ | _ | _ | _ | _ | _ | i
    · exact y0_0
    · exact y0_1
    · exact y0_2
    · exact y0_3
    · exact y0_4
    · exact y0_5
    · rw [Array.getElem?_eq_none (by simp at z0; omega), Array.getElem?_eq_none (by simp)]
  refine (twist_parses n0_0 n0_1 n0_2 n0_3 n0_4 n0_5  l0_0 l0_1 l0_2 l0_3 l0_4 l0_5   W (twistParses_table hL) (twistParses_maxlen hsh)).mono fun e W' ⟨he, hg⟩ => ?_
  subst he
  exact ⟨_, rfl, law_post (tb := 4) laidOut (by kernel_rfl) (by kernel_rfl) (by kernel_rfl) rfl hW' rfl hg⟩
noncomputable def twistParses_world (os : Os) : World := World.laidAll Tryz.prog os Rows.twistParsesRow.laid
theorem twistParses_met (os : Os) : laidMet Tryz.prog Rows.twistParsesRow.laid ((twistParses_world os).forCall (fun _ _ => 0) ⟨#[], #[.agg #[.string ⟨#[]⟩, .string ⟨#[]⟩, .string ⟨#[]⟩, .string ⟨#[]⟩, .string ⟨#[]⟩, .string ⟨#[]⟩]], []⟩).memory :=
  laidMet_laidAll _ (by kernel_rfl) (by kernel_rfl)
theorem twistParses_reads (os : Os) {H : Type} (enc : TypeId × Value → H) : ∃ places, DataW.whole enc Tryz.prog ((twistParses_world os).forCall (fun _ _ => 0) ⟨#[], #[.agg #[.string ⟨#[]⟩, .string ⟨#[]⟩, .string ⟨#[]⟩, .string ⟨#[]⟩, .string ⟨#[]⟩, .string ⟨#[]⟩]], []⟩).memory Tryz.f5.params.toList Rows.twistParsesSpec.vars false (#[.agg #[.string ⟨#[]⟩, .string ⟨#[]⟩, .string ⟨#[]⟩, .string ⟨#[]⟩, .string ⟨#[]⟩, .string ⟨#[]⟩]] : Array Value).toList 8 = some ([.agg [.lit (.string []), .lit (.string []), .lit (.string []), .lit (.string []), .lit (.string []), .lit (.string [])]], [], places) :=
  ⟨[], by kernel_rfl⟩
set_option maxRecDepth 100000 in
theorem twistParses_lifted (os : Os) (started : os.Started) (H : Type) (enc : TypeId × Value → H) (F : Stop.Interp) :
    ReturnsInHanded {} Tryz.checked os 5 .any ((OpenSpec.ofChange Rows.twistParsesSpec).preRow enc Tryz.prog Tryz.f5 Rows.twistParsesRow.domain false Rows.twistParsesRow.laid) (((OpenSpec.ofChange Rows.twistParsesSpec).at F).post enc Tryz.prog Tryz.f5 false true false false) := by
  obtain ⟨places, hx⟩ := twistParses_reads os enc
  refine returnsInHanded_of_row (C := Tryz.checked) (s := OpenSpec.ofChange Rows.twistParsesSpec) own started (by kernel_rfl) Tryz.func5
    (witness_row_sh (enc := enc) (C := Tryz.checked) false (twistParses_world os) #[.agg #[.string ⟨#[]⟩, .string ⟨#[]⟩, .string ⟨#[]⟩, .string ⟨#[]⟩, .string ⟨#[]⟩, .string ⟨#[]⟩]] (World.laidAll_os _ _ _) (World.shaped_of_ZipB (by kernel_rfl) (by kernel_rfl)) (by kernel_rfl)
      (OpenSpec.preRow_of_cond 8 hx (by kernel_rfl) (fun k hk => by cases hk) (by kernel_rfl) (by rw [MakeChecks.laidMetH_plain _ _ _ (by kernel_rfl)]; exact twistParses_met os))) ?_
  intro W base args ds gs before hval hW _ _ _ hL hsh _
  exact twistParses_contract H enc W base args ds gs before hval hW hL hsh
theorem twistParses_said : Rows.TwistParsesSaid :=
  OpenClaim.holds_of_cond 5 Tryz.f5 rfl rfl rfl rfl rfl rfl rfl ⟨rfl, rfl, rfl, rfl, rfl⟩ rfl rfl rfl rfl rfl (by kernel_rfl) Tryz.func5 (by kernel_rfl)
    (of_decide_eq_true (by kernel_rfl)) (by unfold Func.isWrapper; first | (rw [if_pos (by decide +kernel)]; kernel_rfl) | (rw [if_neg (by decide +kernel)]; exact ⟨rfl, rfl⟩))
    (fun os started H enc _ F => by rw [OpenClaim.pre_eq_preRow]; exact twistParses_lifted os started H enc F)
theorem twistParses_plain (f : FuncId) (fn : Func) (hf : Tryz.pinned.checked.prog.funcNamed "dowel/dowellaw17.TwistParses" = some f) (hfn : Tryz.pinned.checked.prog.funcs[f]? = some fn) :
    true = Tryz.pinned.checked.prog.looks [] ∧ ∀ (j : Nat) t, fn.params[j]? = some t → Tryz.pinned.checked.prog.wantsStandIn t = false := by
  obtain rfl : f = 5 := Option.some.inj ((show Tryz.prog.funcNamed "dowel/dowellaw17.TwistParses" = some 5 by kernel_rfl).symm.trans hf) |>.symm
  obtain rfl : fn = Tryz.f5 := (Option.some.inj (Tryz.func5.symm.trans hfn)).symm
  refine ⟨by kernel_rfl, fun j t ht => ?_⟩
  rw [Tryz.params5] at ht
  have hm := Array.mem_of_getElem? ht
  have hall : (#[63] : Array TypeId).toList.all (fun t => !Tryz.prog.wantsStandIn t) = true := by kernel_rfl
  have := List.all_eq_true.1 hall t (Array.mem_toList_iff.2 hm)
  have h3 : Tryz.prog.wantsStandIn t = false := by simpa using this
  exact h3
/-- the card -/
theorem twistParses_card : Rows.TwistParsesCardSaid :=
  Claim7.holds_tied_plain_at .later [] _ _ _ _ twistParses_said (fun _ h => by cases h) (by kernel_rfl) (fun _ h => by cases h) twistParses_row_tie rfl ⟨rfl, rfl⟩ (by kernel_rfl) rfl twistParses_plain (by kernel_rfl)
end Go.Proofs.YthhbibpaeonecaaGreatDoor
