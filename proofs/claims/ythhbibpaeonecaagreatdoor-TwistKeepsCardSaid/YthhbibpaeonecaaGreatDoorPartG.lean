/- Joined of: Gen153, Gen154, RowTwistKeeps. -/
import Derived.Test.YthhbibpaeonecaaGreatDoorPartF
import Derived.Test.YthhbibpaeonecaaGreatDoorCards
import Derived.Test.YthhbibpaeonecaaGreatDoorTie
import Derived.Test.YthhbibpaeonecaaGreatDoorPartA
namespace Go.Proofs.YthhbibpaeonecaaGreatDoor
open Go.RowKit

theorem zL4 {n:Nn} {X:Env} {W:World}:okF n X W []:=fun x hx=>by cases hx
theorem zh5 {n:Nn} {X:Env} {W:World} {u:SV} {l:List SV} (h1:u.ok n X W) (h2:okF n X W l):okF n X W (u::l):=fun x hx=>by
 rcases List.mem_cons.1 hx with rfl | h
 ·exact h1
 ·exact h2 x h
theorem zT8 {t:Bool} {d:Option Bool} (h:t=true):isTt (.so (.vc (.cb t d))):=fun _=>by rw [h];rfl
noncomputable def tabTm:List (Nat × List (Nat × Ent)):=[(3,[(8,.ord [(true,0),(true,1),(true,2),(true,3),(true,4),(false,5),(false,6),(true,7),(true,8),(true,9),(true,10),(true,14),(true,15),(true,16),(false,11),(false,12),(false,13),(false,17),(false,18),(false,19),(false,20),(true,21),(true,22)] [])]),
 (7,[]),
 (8,[(1,.ord [(true,0),(true,2),(false,1),(false,3),(true,4),(false,5)] [2])]),
 (9,[(2,.ord [(true,0),(true,1),(true,2),(true,3),(true,5),(true,6),(true,7),(false,4),(false,8),(false,9),(true,10),(false,11)] [4])]),
 (10,[]),
 (11,[]),
 (12,[(1,.ord [(true,0),(true,1),(true,2),(true,3),(true,4),(false,5),(false,6),(false,7)] [4])]),
 (13,[(1,.ord [(true,0),(true,1),(true,3),(true,4),(false,2),(false,5),(false,6)] [4])]),
 (14,[]),
 (18,[(5,.ord [(true,0),(true,1),(true,2),(true,3),(true,4),(true,5),(true,6),(true,7),(true,9),(true,10),(true,11),(true,12),(true,13),(false,8),(false,14),(false,15),(true,16),(true,17),(true,18),(true,19),(false,20)] [5])]),
 (31,[]),
 (37,[]),
 (38,[(6,.ord [(true,0),(true,1),(true,2),(true,3),(true,4),(true,5),(true,6),(true,8),(true,9),(true,10),(true,11),(true,12),(true,13),(false,7),(false,14),(false,15),(true,16),(false,17)] [5])]),
 (39,[(4,.ord [(true,0),(true,1),(true,2),(true,3),(true,4),(true,5),(false,6),(true,7)] [])]),
 (40,[]),
 (60,[(5,.ord [(true,0),(true,1),(true,2),(true,3),(true,4),(true,5),(true,6),(true,7),(false,8),(true,9),(false,10)] [7])]),
 (62,[])]
noncomputable def conTm:List (Nat × ConT):=[(46,zv7 100000 (fun k m=>k+m+1) (fun a b=>a+b)),
 (61,zv7 100000 (fun k m=>k+m+1) (fun a b=>a - b)),
 (53,zv7 100000 (fun k m=>k+m) (fun a b=>a*b)),
 (89,cNeg),
 (42,cFrom),
 (45,cComp),
 (54,cSign),
 (35,cNumb),
 (79,cNum),
 (65,cDen),
 (41,cDiv),
 (66,zO4),
 (64,cZMul),
 (75,cZGcd),
 (77,cZDiv),
 (121,zG1 400),
 (23,zG1 65536),
 (6,cKn17),
 (36,cMvd)]
noncomputable def sysTm:Sys:=⟨Tryz.prog,2,142,tabTm,conTm,fun w=>Tab w∧Mx w⟩
theorem sysTm_ok:sysTm.OK where
 mixed:=by kernel_rfl
 calls:=fun f h0 h1=>by
  have:(List.range 142).all (fun f=>Nat.blt f 2||okCall Tryz.prog f)=true:=by kernel_rfl
  have:=List.all_eq_true.1 this f (List.mem_range.2 h1)
  simp only [Bool.or_eq_true] at this
  exact this.resolve_left (fun e=>by have:=zd6 e;exact absurd h0 (by show ¬ 2≤f;omega))
 tab:=by
  have:tabTm.all (okTab Tryz.prog)=true:=by kernel_rfl
  exact fun x hx=>List.all_eq_true.1 this x hx
 lps:=ya8 (by kernel_rfl)
 con:=fun x hx=>by
  simp only [sysTm,conTm,List.mem_cons,List.not_mem_nil,or_false] at hx
  rcases hx with rfl | rfl | rfl | rfl | rfl | rfl | rfl | rfl | rfl | rfl | rfl | rfl | rfl | rfl | rfl | rfl | rfl | rfl | rfl
  ·exact zf5 fun h1 h2 h3=>zw9 h1 h2 h3
  ·exact zf5 fun h1 h2 h3=>zP9 h1 h2 h3
  ·exact zf5 fun h1 h2 h3=>zm7 h1 h2 h3
  ·exact zJ9
  ·exact zB4
  ·exact zB5
  ·exact zB6
  ·exact zB7 fun w h=>h.1
  ·exact zK0
  ·exact zK1
  ·exact zK2
  ·exact zw1
  ·exact zB8
  ·exact zB9
  ·exact zC0
  ·exact zC1 fun w h=>h.2
  ·exact zC2 fun w h=>h.2
  ·exact zL3 fun w h=>h.1
  ·exact zT7 fun w h=>h
 inv:=fun w w' h g=>⟨h.1.gr g,h.2.gr g⟩
def treeTm (r:Nat→Rat) (d w1 w2 w3 v1 v2 v3 p1 p2 p3 s1 s2 s3:Rat):Lf:=asZ 6 d (
 .as (zc0 (t3 (r 0) (r 1) (r 2) (w1) (w2) (w3)) (t3 (r 0) (r 1) (r 2) (w1) (w2) (w3)) !=0) false (
 .as (zc0 (t3 (r 3) (r 4) (r 5) (w1) (w2) (w3)) (t3 (r 3) (r 4) (r 5) (w1) (w2) (w3)) !=0) false (
 .as (zc0 (t3 (r 6) (r 7) (r 8) (w1) (w2) (w3)) (t3 (r 6) (r 7) (r 8) (w1) (w2) (w3)) !=0) false (
 .as (zc0 ((t3 (r 0) (r 1) (r 2) (v1) (v2) (v3))+(s2*(t3 (r 6) (r 7) (r 8) (w1) (w2) (w3)) - s3*(t3 (r 3) (r 4) (r 5) (w1) (w2) (w3)))+((t3 (r 3) (r 4) (r 5) (w1) (w2) (w3))*((t3 (r 6) (r 7) (r 8) (p1) (p2) (p3))+s3) - (t3 (r 6) (r 7) (r 8) (w1) (w2) (w3))*((t3 (r 3) (r 4) (r 5) (p1) (p2) (p3))+s2))) (t3 (r 0) (r 1) (r 2) (v1+(w2*p3 - w3*p2)) (v2+(w3*p1 - w1*p3)) (v3+(w1*p2 - w2*p1))) !=0) false (
 .as (zc0 ((t3 (r 3) (r 4) (r 5) (v1) (v2) (v3))+(s3*(t3 (r 0) (r 1) (r 2) (w1) (w2) (w3)) - s1*(t3 (r 6) (r 7) (r 8) (w1) (w2) (w3)))+((t3 (r 6) (r 7) (r 8) (w1) (w2) (w3))*((t3 (r 0) (r 1) (r 2) (p1) (p2) (p3))+s1) - (t3 (r 0) (r 1) (r 2) (w1) (w2) (w3))*((t3 (r 6) (r 7) (r 8) (p1) (p2) (p3))+s3))) (t3 (r 3) (r 4) (r 5) (v1+(w2*p3 - w3*p2)) (v2+(w3*p1 - w1*p3)) (v3+(w1*p2 - w2*p1))) !=0) false (
 .as (zc0 ((t3 (r 6) (r 7) (r 8) (v1) (v2) (v3))+(s1*(t3 (r 3) (r 4) (r 5) (w1) (w2) (w3)) - s2*(t3 (r 0) (r 1) (r 2) (w1) (w2) (w3)))+((t3 (r 0) (r 1) (r 2) (w1) (w2) (w3))*((t3 (r 3) (r 4) (r 5) (p1) (p2) (p3))+s2) - (t3 (r 3) (r 4) (r 5) (w1) (w2) (w3))*((t3 (r 0) (r 1) (r 2) (p1) (p2) (p3))+s1))) (t3 (r 6) (r 7) (r 8) (v1+(w2*p3 - w3*p2)) (v2+(w3*p1 - w1*p3)) (v3+(w1*p2 - w2*p1))) !=0) false (
 .ret (.so (.vc (.cb ((0:Int)==0) (some true)))))))))))
theorem zT9 {r:Nat→Rat} (h:Rot9 r) {d:Rat} (hd:d≠0) (w1 w2 w3 v1 v2 v3 p1 p2 p3 s1 s2 s3:Rat):LOK isTt (treeTm r d w1 w2 w3 v1 v2 v3 p1 p2 p3 s1 s2 s3):=zw6 hd (⟨rcz rfl,⟨rcz rfl,⟨rcz rfl,⟨rcz ((mv_ _ _ _ _ _ _ _ (x1 h w1 w2 w3 p1 p2 p3)).trans (zz3 ..).symm),⟨rcz ((mv_ _ _ _ _ _ _ _ (x2 h w1 w2 w3 p1 p2 p3)).trans (zz3 ..).symm),⟨rcz ((mv_ _ _ _ _ _ _ _ (x3 h w1 w2 w3 p1 p2 p3)).trans (zz3 ..).symm),zT8 rfl⟩⟩⟩⟩⟩⟩)
theorem runTm (a0 a1 a2 a3 a4 a5 da p0 p1 p2 n0 n1 n2 n3 n4:Int):runF sysTm 3 [.so (.vg [.ci .i8 a0 (-128) 127,.ci .i8 a1 (-128) 127,.ci .i8 a2 (-128) 127,.ci .i8 a3 (-128) 127,.ci .i8 a4 (-128) 127,.ci .i8 a5 (-128) 127,.ci .u8 da 0 255]),.so (.vg [.ci .i8 p0 (-128) 127,.ci .i8 p1 (-128) 127,.ci .i8 p2 (-128) 127]),.so (.vg [.ci .u8 n0 0 255,.ci .u8 n1 0 255,.ci .u8 n2 0 255,.ci .u8 n3 0 255,.ci .u8 n4 0 255])] 0 0 (.f (.f (.f (.f (.f (.f (.f (.f (.f (.f (.f (.f .e))))))))))))=some (treeTm (roE (tq n0 0) (tq n0 1) (tq n0 2) (tq n0 3)) (zw7 da) (((a0:Int):Rat)/zw7 da) (((a1:Int):Rat)/zw7 da) (((a2:Int):Rat)/zw7 da) (((a3:Int):Rat)/zw7 da) (((a4:Int):Rat)/zw7 da) (((a5:Int):Rat)/zw7 da) ((p0:Int):Rat) ((p1:Int):Rat) ((p2:Int):Rat) (sh2 n1 n4) (sh2 n2 n4) (sh2 n3 n4)):=by kernel_rfl
theorem zG9 (a0 a1 a2 a3 a4 a5 da p0 p1 p2 n0 n1 n2 n3 n4:Int) (af:-128≤a0∧a0≤127) (ab:-128≤a1∧a1≤127) (ah:-128≤a2∧a2≤127) (ad:-128≤a3∧a3≤127) (ar:-128≤a4∧a4≤127) (ae:-128≤a5∧a5≤127) (jda:0≤da∧da≤255) (ak:-128≤p0∧p0≤127) (aq:-128≤p1∧p1≤127) (ai:-128≤p2∧p2≤127) (aa:0≤n0∧n0≤255) (al:0≤n1∧n1≤255) (ac:0≤n2∧n2≤255) (ap:0≤n3∧n3≤255) (aj:0≤n4∧n4≤255) (w:World) (ht:Tab w) (hm:Mx w):
  Calls Tryz.prog 3 #[.agg #[.int .i8 a0,.int .i8 a1,.int .i8 a2,.int .i8 a3,.int .i8 a4,.int .i8 a5,.int .u8 da],.agg #[.int .i8 p0,.int .i8 p1,.int .i8 p2],.agg #[.int .u8 n0,.int .u8 n1,.int .u8 n2,.int .u8 n3,.int .u8 n4]] w fun e w'=>e=.returned (.bool true)∧Gr w w':=by
 refine (zo1 sysTm sysTm_ok (runTm a0 a1 a2 a3 a4 a5 da p0 p1 p2 n0 n1 n2 n3 n4) (X:=envR []) ⟨ht,hm⟩ (zh5 (zm6 ⟨⟨rfl,af⟩,⟨rfl,ab⟩,⟨rfl,ah⟩,⟨rfl,ad⟩,⟨rfl,ar⟩,⟨rfl,ae⟩,⟨rfl,jda⟩,trivial⟩) (zh5 (zm6 ⟨⟨rfl,ak⟩,⟨rfl,aq⟩,⟨rfl,ai⟩,trivial⟩) (zh5 (zm6 ⟨⟨rfl,aa⟩,⟨rfl,al⟩,⟨rfl,ac⟩,⟨rfl,ap⟩,⟨rfl,aj⟩,trivial⟩) zL4))) (Post:=isTt) (zT9 (rot9 (tq_vt n0)) (zK5 da) ..)).mono fun e w' he=>?_
 obtain ⟨v,X',n,rfl,g,_,_,hp⟩:=he
 exact ⟨by rw [hp],g⟩
noncomputable def tabTk:List (Nat × List (Nat × Ent)):=[(4,[(6,.flo [(true,0),(true,2),(false,1),(false,3)] [(4,9,42),(5,10,51)] [(false,6),(false,7)] []),(8,.flo [(true,0),(true,2),(true,5),(false,1),(false,3),(false,4),(false,6)] [(7,12,51)] [(false,8)] []),(9,.flo [(true,0),(true,1),(true,4),(true,5),(false,2),(false,3),(false,6),(false,7),(false,8)] [(9,13,51)] [(false,10)] []),(10,.flo [(true,0),(true,1),(true,3),(false,2),(false,4),(false,5)] [(6,14,42)] [(false,7)] []),(11,.ord [(true,0),(true,1),(true,3),(true,5),(true,6),(false,2),(false,4),(false,7),(false,8),(true,9),(true,10),(true,11),(true,12),(true,13),(true,14),(false,15),(false,16),(true,17),(true,18),(true,19),(true,20),(true,21),(true,22),(false,23),(true,24),(true,25),(true,26),(true,27),(true,28),(true,29),(false,30),(true,31),(true,32),(true,33),(true,34),(false,35),(true,36),(true,37)] [])]),
 (7,[]),
 (8,[(1,.ord [(true,0),(true,2),(false,1),(false,3),(true,4),(false,5)] [2])]),
 (9,[(2,.ord [(true,0),(true,1),(true,2),(true,3),(true,5),(true,6),(true,7),(false,4),(false,8),(false,9),(true,10),(false,11)] [4])]),
 (10,[]),
 (11,[]),
 (13,[(1,.ord [(true,0),(true,1),(true,3),(true,4),(false,2),(false,5),(false,6)] [4])]),
 (15,[(1,.ord [(true,0),(true,2),(false,1),(false,3),(true,4),(false,5)] [2])]),
 (16,[(2,.ord [(true,0),(true,1),(true,2),(true,4),(true,5),(true,6),(true,9),(false,3),(false,7),(false,8),(true,10),(false,11)] [4])]),
 (17,[(1,.ord [(true,0),(true,1),(true,3),(false,2),(true,4),(false,5)] [4])]),
 (18,[(5,.ord [(true,0),(true,1),(true,2),(true,3),(true,4),(true,5),(true,6),(true,7),(true,9),(true,10),(true,11),(true,12),(true,13),(false,8),(false,14),(false,15),(true,16),(true,17),(true,18),(true,19),(false,20)] [5])]),
 (19,[]),
 (20,[]),
 (21,[(1,.ord [(true,0),(true,1),(true,2),(true,3),(true,5),(true,6),(true,7),(true,8),(false,4),(false,9),(false,10),(false,11)] [4])]),
 (22,[]),
 (37,[]),
 (38,[(6,.ord [(true,0),(true,1),(true,2),(true,3),(true,4),(true,5),(true,6),(true,8),(true,9),(true,10),(true,11),(true,12),(true,13),(false,7),(false,14),(false,15),(true,16),(false,17)] [5])]),
 (39,[(4,.ord [(true,0),(true,1),(true,2),(true,3),(true,4),(true,5),(false,6),(true,7)] [])]),
 (40,[]),
 (43,[(8,.ord [(true,0),(true,1),(true,2),(true,3),(true,4),(false,5)] [3])]),
 (44,[]),
 (60,[(5,.ord [(true,0),(true,1),(true,2),(true,3),(true,4),(true,5),(true,6),(true,7),(false,8),(true,9),(false,10)] [7])]),
 (62,[])]
noncomputable def conTk:List (Nat × ConT):=[(46,zv7 100000 (fun k m=>k+m+1) (fun a b=>a+b)),
 (61,zv7 100000 (fun k m=>k+m+1) (fun a b=>a - b)),
 (53,zv7 100000 (fun k m=>k+m) (fun a b=>a*b)),
 (89,cNeg),
 (42,cFrom),
 (45,cComp),
 (54,cSign),
 (35,cNumb),
 (79,cNum),
 (65,cDen),
 (41,cDiv),
 (66,zO4),
 (64,cZMul),
 (75,cZGcd),
 (77,cZDiv),
 (121,zG1 400),
 (23,zG1 65536),
 (6,cKn17),
 (36,cMvd)]
noncomputable def sysTk:Sys:=⟨Tryz.prog,2,142,tabTk,conTk,fun w=>Tab w∧Mx w⟩
theorem sysTk_ok:sysTk.OK where
 mixed:=by kernel_rfl
 calls:=fun f h0 h1=>by
  have:(List.range 142).all (fun f=>Nat.blt f 2||okCall Tryz.prog f)=true:=by kernel_rfl
  have:=List.all_eq_true.1 this f (List.mem_range.2 h1)
  simp only [Bool.or_eq_true] at this
  exact this.resolve_left (fun e=>by have:=zd6 e;exact absurd h0 (by show ¬ 2≤f;omega))
 tab:=by
  have:tabTk.all (okTab Tryz.prog)=true:=by kernel_rfl
  exact fun x hx=>List.all_eq_true.1 this x hx
 lps:=ya8 (by kernel_rfl)
 con:=fun x hx=>by
  simp only [sysTk,conTk,List.mem_cons,List.not_mem_nil,or_false] at hx
  rcases hx with rfl | rfl | rfl | rfl | rfl | rfl | rfl | rfl | rfl | rfl | rfl | rfl | rfl | rfl | rfl | rfl | rfl | rfl | rfl
  ·exact zf5 fun h1 h2 h3=>zw9 h1 h2 h3
  ·exact zf5 fun h1 h2 h3=>zP9 h1 h2 h3
  ·exact zf5 fun h1 h2 h3=>zm7 h1 h2 h3
  ·exact zJ9
  ·exact zB4
  ·exact zB5
  ·exact zB6
  ·exact zB7 fun w h=>h.1
  ·exact zK0
  ·exact zK1
  ·exact zK2
  ·exact zw1
  ·exact zB8
  ·exact zB9
  ·exact zC0
  ·exact zC1 fun w h=>h.2
  ·exact zC2 fun w h=>h.2
  ·exact zL3 fun w h=>h.1
  ·exact zT7 fun w h=>h
 inv:=fun w w' h g=>⟨h.1.gr g,h.2.gr g⟩
def treeTk (r:Nat→Rat) (d e w1 w2 w3 v1 v2 v3 m1 m2 m3 f1 f2 f3 s1 s2 s3:Rat):Lf:=asZ 6 d (asZ 6 e (asZ 3 d (asZ 3 e (asZ 3 d (asZ 3 e (
 .as (zc0 (t3 ((t3 (r 0) (r 1) (r 2) (m1) (m2) (m3))+(s2*(t3 (r 6) (r 7) (r 8) (f1) (f2) (f3)) - s3*(t3 (r 3) (r 4) (r 5) (f1) (f2) (f3)))) ((t3 (r 3) (r 4) (r 5) (m1) (m2) (m3))+(s3*(t3 (r 0) (r 1) (r 2) (f1) (f2) (f3)) - s1*(t3 (r 6) (r 7) (r 8) (f1) (f2) (f3)))) ((t3 (r 6) (r 7) (r 8) (m1) (m2) (m3))+(s1*(t3 (r 3) (r 4) (r 5) (f1) (f2) (f3)) - s2*(t3 (r 0) (r 1) (r 2) (f1) (f2) (f3)))) (t3 (r 0) (r 1) (r 2) (w1) (w2) (w3)) (t3 (r 3) (r 4) (r 5) (w1) (w2) (w3)) (t3 (r 6) (r 7) (r 8) (w1) (w2) (w3))+t3 (t3 (r 0) (r 1) (r 2) (f1) (f2) (f3)) (t3 (r 3) (r 4) (r 5) (f1) (f2) (f3)) (t3 (r 6) (r 7) (r 8) (f1) (f2) (f3)) ((t3 (r 0) (r 1) (r 2) (v1) (v2) (v3))+(s2*(t3 (r 6) (r 7) (r 8) (w1) (w2) (w3)) - s3*(t3 (r 3) (r 4) (r 5) (w1) (w2) (w3)))) ((t3 (r 3) (r 4) (r 5) (v1) (v2) (v3))+(s3*(t3 (r 0) (r 1) (r 2) (w1) (w2) (w3)) - s1*(t3 (r 6) (r 7) (r 8) (w1) (w2) (w3)))) ((t3 (r 6) (r 7) (r 8) (v1) (v2) (v3))+(s1*(t3 (r 3) (r 4) (r 5) (w1) (w2) (w3)) - s2*(t3 (r 0) (r 1) (r 2) (w1) (w2) (w3))))) (t3 m1 m2 m3 w1 w2 w3+t3 f1 f2 f3 v1 v2 v3)==0) true (
 .as (zc0 (t3 (r 0) (r 1) (r 2) (f1) (f2) (f3)) (t3 (r 0) (r 1) (r 2) (f1) (f2) (f3)) !=0) false (
 .as (zc0 (t3 (r 3) (r 4) (r 5) (f1) (f2) (f3)) (t3 (r 3) (r 4) (r 5) (f1) (f2) (f3)) !=0) false (
 .as (zc0 (t3 (r 6) (r 7) (r 8) (f1) (f2) (f3)) (t3 (r 6) (r 7) (r 8) (f1) (f2) (f3)) !=0) false (
 .as (zc0 ((t3 (r 0) (r 1) (r 2) (w2*m3 - w3*m2) (w3*m1 - w1*m3) (w1*m2 - w2*m1))+(s2*(t3 (r 6) (r 7) (r 8) (m1) (m2) (m3)) - s3*(t3 (r 3) (r 4) (r 5) (m1) (m2) (m3)))) (((t3 (r 3) (r 4) (r 5) (w1) (w2) (w3))+s2)*(t3 (r 6) (r 7) (r 8) (m1) (m2) (m3)) - ((t3 (r 6) (r 7) (r 8) (w1) (w2) (w3))+s3)*(t3 (r 3) (r 4) (r 5) (m1) (m2) (m3))) !=0) false (
 .as (zc0 ((t3 (r 3) (r 4) (r 5) (w2*m3 - w3*m2) (w3*m1 - w1*m3) (w1*m2 - w2*m1))+(s3*(t3 (r 0) (r 1) (r 2) (m1) (m2) (m3)) - s1*(t3 (r 6) (r 7) (r 8) (m1) (m2) (m3)))) (((t3 (r 6) (r 7) (r 8) (w1) (w2) (w3))+s3)*(t3 (r 0) (r 1) (r 2) (m1) (m2) (m3)) - ((t3 (r 0) (r 1) (r 2) (w1) (w2) (w3))+s1)*(t3 (r 6) (r 7) (r 8) (m1) (m2) (m3))) !=0) false (
 .as (zc0 ((t3 (r 6) (r 7) (r 8) (w2*m3 - w3*m2) (w3*m1 - w1*m3) (w1*m2 - w2*m1))+(s1*(t3 (r 3) (r 4) (r 5) (m1) (m2) (m3)) - s2*(t3 (r 0) (r 1) (r 2) (m1) (m2) (m3)))) (((t3 (r 0) (r 1) (r 2) (w1) (w2) (w3))+s1)*(t3 (r 3) (r 4) (r 5) (m1) (m2) (m3)) - ((t3 (r 3) (r 4) (r 5) (w1) (w2) (w3))+s2)*(t3 (r 0) (r 1) (r 2) (m1) (m2) (m3))) !=0) false (
 .as (zc0 (t3 (r 0) (r 1) (r 2) (m1) (m2) (m3)) (t3 (r 0) (r 1) (r 2) (m1) (m2) (m3)) !=0) false (
 .as (zc0 (t3 (r 3) (r 4) (r 5) (m1) (m2) (m3)) (t3 (r 3) (r 4) (r 5) (m1) (m2) (m3)) !=0) false (
 .as (zc0 (t3 (r 6) (r 7) (r 8) (m1) (m2) (m3)) (t3 (r 6) (r 7) (r 8) (m1) (m2) (m3)) !=0) false (
 .as (zc0 (t3 (r 0) (r 3) (r 6) ((t3 (r 0) (r 1) (r 2) (w1) (w2) (w3))) ((t3 (r 3) (r 4) (r 5) (w1) (w2) (w3))) ((t3 (r 6) (r 7) (r 8) (w1) (w2) (w3)))) w1 !=0) false (
 .as (zc0 (t3 (r 1) (r 4) (r 7) ((t3 (r 0) (r 1) (r 2) (w1) (w2) (w3))) ((t3 (r 3) (r 4) (r 5) (w1) (w2) (w3))) ((t3 (r 6) (r 7) (r 8) (w1) (w2) (w3)))) w2 !=0) false (
 .as (zc0 (t3 (r 2) (r 5) (r 8) ((t3 (r 0) (r 1) (r 2) (w1) (w2) (w3))) ((t3 (r 3) (r 4) (r 5) (w1) (w2) (w3))) ((t3 (r 6) (r 7) (r 8) (w1) (w2) (w3)))) w3 !=0) false (
 .as (zc0 ((t3 (r 0) (r 3) (r 6) ((t3 (r 0) (r 1) (r 2) (v1) (v2) (v3))+(s2*(t3 (r 6) (r 7) (r 8) (w1) (w2) (w3)) - s3*(t3 (r 3) (r 4) (r 5) (w1) (w2) (w3)))) ((t3 (r 3) (r 4) (r 5) (v1) (v2) (v3))+(s3*(t3 (r 0) (r 1) (r 2) (w1) (w2) (w3)) - s1*(t3 (r 6) (r 7) (r 8) (w1) (w2) (w3)))) ((t3 (r 6) (r 7) (r 8) (v1) (v2) (v3))+(s1*(t3 (r 3) (r 4) (r 5) (w1) (w2) (w3)) - s2*(t3 (r 0) (r 1) (r 2) (w1) (w2) (w3)))))+((0 - (t3 (r 1) (r 4) (r 7) (s1) (s2) (s3)))*(t3 (r 2) (r 5) (r 8) ((t3 (r 0) (r 1) (r 2) (w1) (w2) (w3))) ((t3 (r 3) (r 4) (r 5) (w1) (w2) (w3))) ((t3 (r 6) (r 7) (r 8) (w1) (w2) (w3)))) - (0 - (t3 (r 2) (r 5) (r 8) (s1) (s2) (s3)))*(t3 (r 1) (r 4) (r 7) ((t3 (r 0) (r 1) (r 2) (w1) (w2) (w3))) ((t3 (r 3) (r 4) (r 5) (w1) (w2) (w3))) ((t3 (r 6) (r 7) (r 8) (w1) (w2) (w3)))))) v1 !=0) false (
 .as (zc0 ((t3 (r 1) (r 4) (r 7) ((t3 (r 0) (r 1) (r 2) (v1) (v2) (v3))+(s2*(t3 (r 6) (r 7) (r 8) (w1) (w2) (w3)) - s3*(t3 (r 3) (r 4) (r 5) (w1) (w2) (w3)))) ((t3 (r 3) (r 4) (r 5) (v1) (v2) (v3))+(s3*(t3 (r 0) (r 1) (r 2) (w1) (w2) (w3)) - s1*(t3 (r 6) (r 7) (r 8) (w1) (w2) (w3)))) ((t3 (r 6) (r 7) (r 8) (v1) (v2) (v3))+(s1*(t3 (r 3) (r 4) (r 5) (w1) (w2) (w3)) - s2*(t3 (r 0) (r 1) (r 2) (w1) (w2) (w3)))))+((0 - (t3 (r 2) (r 5) (r 8) (s1) (s2) (s3)))*(t3 (r 0) (r 3) (r 6) ((t3 (r 0) (r 1) (r 2) (w1) (w2) (w3))) ((t3 (r 3) (r 4) (r 5) (w1) (w2) (w3))) ((t3 (r 6) (r 7) (r 8) (w1) (w2) (w3)))) - (0 - (t3 (r 0) (r 3) (r 6) (s1) (s2) (s3)))*(t3 (r 2) (r 5) (r 8) ((t3 (r 0) (r 1) (r 2) (w1) (w2) (w3))) ((t3 (r 3) (r 4) (r 5) (w1) (w2) (w3))) ((t3 (r 6) (r 7) (r 8) (w1) (w2) (w3)))))) v2 !=0) false (
 .as (zc0 ((t3 (r 2) (r 5) (r 8) ((t3 (r 0) (r 1) (r 2) (v1) (v2) (v3))+(s2*(t3 (r 6) (r 7) (r 8) (w1) (w2) (w3)) - s3*(t3 (r 3) (r 4) (r 5) (w1) (w2) (w3)))) ((t3 (r 3) (r 4) (r 5) (v1) (v2) (v3))+(s3*(t3 (r 0) (r 1) (r 2) (w1) (w2) (w3)) - s1*(t3 (r 6) (r 7) (r 8) (w1) (w2) (w3)))) ((t3 (r 6) (r 7) (r 8) (v1) (v2) (v3))+(s1*(t3 (r 3) (r 4) (r 5) (w1) (w2) (w3)) - s2*(t3 (r 0) (r 1) (r 2) (w1) (w2) (w3)))))+((0 - (t3 (r 0) (r 3) (r 6) (s1) (s2) (s3)))*(t3 (r 1) (r 4) (r 7) ((t3 (r 0) (r 1) (r 2) (w1) (w2) (w3))) ((t3 (r 3) (r 4) (r 5) (w1) (w2) (w3))) ((t3 (r 6) (r 7) (r 8) (w1) (w2) (w3)))) - (0 - (t3 (r 1) (r 4) (r 7) (s1) (s2) (s3)))*(t3 (r 0) (r 3) (r 6) ((t3 (r 0) (r 1) (r 2) (w1) (w2) (w3))) ((t3 (r 3) (r 4) (r 5) (w1) (w2) (w3))) ((t3 (r 6) (r 7) (r 8) (w1) (w2) (w3)))))) v3 !=0) false (
 .ret (.so (.vc (.cb ((0:Int)==0) (some true))))))))))))))))))))))))))
theorem zU0 {r:Nat→Rat} (h:Rot9 r) {d e:Rat} (hd:d≠0) (he:e≠0) (w1 w2 w3 v1 v2 v3 m1 m2 m3 f1 f2 f3 s1 s2 s3:Rat):LOK isTt (treeTk r d e w1 w2 w3 v1 v2 v3 m1 m2 m3 f1 f2 f3 s1 s2 s3):=zw6 hd (zw6 he (zw6 hd (zw6 he (zw6 hd (zw6 he (⟨rcy ((pw_ ..).trans (by rw [kd h,kd h])),⟨rcz rfl,⟨rcz rfl,⟨rcz rfl,⟨rcz (fm_ _ _ _ _ _ _ (x1 h w1 w2 w3 m1 m2 m3)),⟨rcz (fm_ _ _ _ _ _ _ (x2 h w1 w2 w3 m1 m2 m3)),⟨rcz (fm_ _ _ _ _ _ _ (x3 h w1 w2 w3 m1 m2 m3)),⟨rcz rfl,⟨rcz rfl,⟨rcz rfl,⟨rcz (bk1 h w1 w2 w3),⟨rcz (bk2 h w1 w2 w3),⟨rcz (bk3 h w1 w2 w3),⟨rcz (by rw [zz3];exact (bl_ _ _ _ _ _ (y1 h ..)).trans (bk1 h v1 v2 v3)),⟨rcz (by rw [zz3];exact (bl_ _ _ _ _ _ (y2 h ..)).trans (bk2 h v1 v2 v3)),⟨rcz (by rw [zz3];exact (bl_ _ _ _ _ _ (y3 h ..)).trans (bk3 h v1 v2 v3)),zT8 rfl⟩⟩⟩⟩⟩⟩⟩⟩⟩⟩⟩⟩⟩⟩⟩⟩))))))
theorem runTk (a0 a1 a2 a3 a4 a5 da b0 b1 b2 b3 b4 b5 db n0 n1 n2 n3 n4:Int):runF sysTk 4 [.so (.vg [.ci .i8 a0 (-128) 127,.ci .i8 a1 (-128) 127,.ci .i8 a2 (-128) 127,.ci .i8 a3 (-128) 127,.ci .i8 a4 (-128) 127,.ci .i8 a5 (-128) 127,.ci .u8 da 0 255]),.so (.vg [.ci .i8 b0 (-128) 127,.ci .i8 b1 (-128) 127,.ci .i8 b2 (-128) 127,.ci .i8 b3 (-128) 127,.ci .i8 b4 (-128) 127,.ci .i8 b5 (-128) 127,.ci .u8 db 0 255]),.so (.vg [.ci .u8 n0 0 255,.ci .u8 n1 0 255,.ci .u8 n2 0 255,.ci .u8 n3 0 255,.ci .u8 n4 0 255])] 0 0 (.f (.f (.f (.f (.f (.f (.f (.f (.f (.f (.f (.f (.f (.f (.f (.f (.f (.f (.f (.f (.f (.f (.f (.f (.t (.f (.f (.f (.f (.f (.f (.f (.f (.f (.f (.f (.f (.f (.f (.f .e))))))))))))))))))))))))))))))))))))))))=some (treeTk (roE (tq n0 0) (tq n0 1) (tq n0 2) (tq n0 3)) (zw7 da) (zw7 db) (((a0:Int):Rat)/zw7 da) (((a1:Int):Rat)/zw7 da) (((a2:Int):Rat)/zw7 da) (((a3:Int):Rat)/zw7 da) (((a4:Int):Rat)/zw7 da) (((a5:Int):Rat)/zw7 da) (((b0:Int):Rat)/zw7 db) (((b1:Int):Rat)/zw7 db) (((b2:Int):Rat)/zw7 db) (((b3:Int):Rat)/zw7 db) (((b4:Int):Rat)/zw7 db) (((b5:Int):Rat)/zw7 db) (sh2 n1 n4) (sh2 n2 n4) (sh2 n3 n4)):=by kernel_rfl
theorem zH0 (a0 a1 a2 a3 a4 a5 da b0 b1 b2 b3 b4 b5 db n0 n1 n2 n3 n4:Int) (aq:-128≤a0∧a0≤127) (ab:-128≤a1∧a1≤127) (au:-128≤a2∧a2≤127) (ak:-128≤a3∧a3≤127) (aw:-128≤a4∧a4≤127) (al:-128≤a5∧a5≤127) (jda:0≤da∧da≤255) (ad:-128≤b0∧b0≤127) (af:-128≤b1∧b1≤127) (ah:-128≤b2∧b2≤127) (ap:-128≤b3∧b3≤127) (ai:-128≤b4∧b4≤127) (ae:-128≤b5∧b5≤127) (jdb:0≤db∧db≤255) (aa:0≤n0∧n0≤255) (ar:0≤n1∧n1≤255) (ac:0≤n2∧n2≤255) (av:0≤n3∧n3≤255) (aj:0≤n4∧n4≤255) (w:World) (ht:Tab w) (hm:Mx w):
  Calls Tryz.prog 4 #[.agg #[.int .i8 a0,.int .i8 a1,.int .i8 a2,.int .i8 a3,.int .i8 a4,.int .i8 a5,.int .u8 da],.agg #[.int .i8 b0,.int .i8 b1,.int .i8 b2,.int .i8 b3,.int .i8 b4,.int .i8 b5,.int .u8 db],.agg #[.int .u8 n0,.int .u8 n1,.int .u8 n2,.int .u8 n3,.int .u8 n4]] w fun e w'=>e=.returned (.bool true)∧Gr w w':=by
 refine (zo1 sysTk sysTk_ok (runTk a0 a1 a2 a3 a4 a5 da b0 b1 b2 b3 b4 b5 db n0 n1 n2 n3 n4) (X:=envR []) ⟨ht,hm⟩ (zh5 (zm6 ⟨⟨rfl,aq⟩,⟨rfl,ab⟩,⟨rfl,au⟩,⟨rfl,ak⟩,⟨rfl,aw⟩,⟨rfl,al⟩,⟨rfl,jda⟩,trivial⟩) (zh5 (zm6 ⟨⟨rfl,ad⟩,⟨rfl,af⟩,⟨rfl,ah⟩,⟨rfl,ap⟩,⟨rfl,ai⟩,⟨rfl,ae⟩,⟨rfl,jdb⟩,trivial⟩) (zh5 (zm6 ⟨⟨rfl,aa⟩,⟨rfl,ar⟩,⟨rfl,ac⟩,⟨rfl,av⟩,⟨rfl,aj⟩,trivial⟩) zL4))) (Post:=isTt) (zU0 (rot9 (tq_vt n0)) (zK5 da) (zK5 db) ..)).mono fun e w' he=>?_
 obtain ⟨v,X',n,rfl,g,_,_,hp⟩:=he
 exact ⟨by rw [hp],g⟩
end Go.Proofs.YthhbibpaeonecaaGreatDoor
namespace Go.Proofs.YthhbibpaeonecaaGreatDoor
open Go.ChangeShapes Go.WideShapes Go.ChangeAt Go.RowKit

theorem zr9 {W : World} (h : laidMetH Tryz.prog Rows.twistKeepsRow.laid W) : Tab W :=
 Lib.tabIs_of_head (rest := _) (g := 5) (t := 227) (e := 148) (n := 20) (by kernel_rfl) (by kernel_rfl) (by kernel_rfl) (by kernel_rfl) (by kernel_rfl) (by kernel_rfl) ((show laidMet Tryz.prog Rows.twistKeepsRow.laid W from (MakeChecks.laidMetH_plain _ _ _ (by kernel_rfl)) ▸ h).tail.tail)
theorem zp2 {W : World} (h : W.ShapedOpen Tryz.prog) : Mx W :=
 Go.Proofs.cell_of_shapedOpen_int (zero := #[.int .i64 0]) (g := 0) (t := 3) h (of_decide_eq_true (by kernel_rfl)) (by kernel_rfl) rfl (by kernel_rfl) (by kernel_rfl) Tryz.underlying3
set_option maxRecDepth 100000 in
theorem zl9 (H : Type) (enc : TypeId × Value → H) (W : World) (base : Nat) (args : Array Value) (ds gs : List (DataW H)) (before : List MemPlace)
  (hval : ∀ (j : Nat) t v, Tryz.f4.params[j]? = some t → args[j]? = some v → Value.okWide Tryz.prog W .any base t v)
  (hW : DataW.Whole enc Tryz.prog Tryz.f4.params.toList Rows.twistKeepsSpec.vars false W args.toList ds gs before) (hL : laidMetH Tryz.prog Rows.twistKeepsRow.laid W) (hsh : W.ShapedOpen Tryz.prog) :
  Calls Tryz.prog 4 args W fun e W' => ∃ v, e = .returned v ∧ Rows.twistKeepsSpec.post enc Tryz.prog Tryz.f4 false true false false W args v W' := by
 have hW' := hW
 obtain ⟨p, q, bb, hV, rfl, hfz, hnd⟩ := hW
 have hA : DataW.TrodAll enc Tryz.prog W 0 (fun _ => true) true Tryz.f4.params.toList args.toList ds p := bb
 rw [Tryz.params4] at hA hval
 obtain ⟨v0, bh, d0, bg, p0, q0, hargs, rfl, rfl, h0, r0⟩ := trodAll_cons hA
 obtain ⟨v1, bc, d1, bi, p1, q1, rfl, rfl, rfl, h1, r1⟩ := trodAll_cons r0
 obtain ⟨v2, bd, d2, bf, p2, q2, rfl, rfl, rfl, h2, r2⟩ := trodAll_cons r1
 obtain ⟨rfl, rfl, rfl⟩ := trodAll_nil r2
 obtain rfl : args = #[v0, v1, v2] := by cases args; simp_all
 obtain ⟨rfl, rfl⟩ := trodVars_none hV
 obtain ⟨c0, rfl, z0, o0⟩ := zf6 (ts := [22, 22, 22, 22, 22, 22, 5]) [.i8, .i8, .i8, .i8, .i8, .i8, .u8] (by kernel_rfl) (by kernel_rfl) (by kernel_rfl) (by kernel_rfl) (hval 0 25 v0 rfl rfl)
 obtain ⟨ak, aT, aC⟩ := o0 0 .i8 rfl
 obtain ⟨ai, a8, az⟩ := o0 1 .i8 rfl
 obtain ⟨af, aF, aQ⟩ := o0 2 .i8 rfl
 obtain ⟨aq, aU, aE⟩ := o0 3 .i8 rfl
 obtain ⟨ap, a3, aY⟩ := o0 4 .i8 rfl
 obtain ⟨aj, aR, a0⟩ := o0 5 .i8 rfl
 obtain ⟨al, aH, a6⟩ := o0 6 .u8 rfl
 obtain rfl : c0 = #[.int .i8 ak, .int .i8 ai, .int .i8 af, .int .i8 aq, .int .i8 ap, .int .i8 aj, .int .u8 al] := by
  apply Array.ext_getElem?; intro i
  rcases i with _ | _ | _ | _ | _ | _ | _ | i
  ·exact aT
  ·exact a8
  ·exact aF
  ·exact aU
  ·exact a3
  ·exact aR
  ·exact aH
  ·rw [Array.getElem?_eq_none (by simp at z0; omega), Array.getElem?_eq_none (by simp)]
 obtain ⟨c1, rfl, z1, o1⟩ := zf6 (ts := [22, 22, 22, 22, 22, 22, 5]) [.i8, .i8, .i8, .i8, .i8, .i8, .u8] (by kernel_rfl) (by kernel_rfl) (by kernel_rfl) (by kernel_rfl) (hval 1 25 v1 rfl rfl)
 obtain ⟨ac, a5, a9⟩ := o1 0 .i8 rfl
 obtain ⟨ay, aB, aV⟩ := o1 1 .i8 rfl
 obtain ⟨ah, aJ, aK⟩ := o1 2 .i8 rfl
 obtain ⟨ae, aS, a2⟩ := o1 3 .i8 rfl
 obtain ⟨ax, a4, aG⟩ := o1 4 .i8 rfl
 obtain ⟨ar, aP, aO⟩ := o1 5 .i8 rfl
 obtain ⟨ab, aZ, aX⟩ := o1 6 .u8 rfl
 obtain rfl : c1 = #[.int .i8 ac, .int .i8 ay, .int .i8 ah, .int .i8 ae, .int .i8 ax, .int .i8 ar, .int .u8 ab] := by
  apply Array.ext_getElem?; intro i
  rcases i with _ | _ | _ | _ | _ | _ | _ | i
  ·exact a5
  ·exact aB
  ·exact aJ
  ·exact aS
  ·exact a4
  ·exact aP
  ·exact aZ
  ·rw [Array.getElem?_eq_none (by simp at z1; omega), Array.getElem?_eq_none (by simp)]
 obtain ⟨c2, rfl, z2, o2⟩ := zf6 (ts := [5, 5, 5, 5, 5]) [.u8, .u8, .u8, .u8, .u8] (by kernel_rfl) (by kernel_rfl) (by kernel_rfl) (by kernel_rfl) (hval 2 27 v2 rfl rfl)
 obtain ⟨av, aW, aD⟩ := o2 0 .u8 rfl
 obtain ⟨au, a1, a7⟩ := o2 1 .u8 rfl
 obtain ⟨ad, aN, aL⟩ := o2 2 .u8 rfl
 obtain ⟨aw, aI, aA⟩ := o2 3 .u8 rfl
 obtain ⟨aa, ba, aM⟩ := o2 4 .u8 rfl
 obtain rfl : c2 = #[.int .u8 av, .int .u8 au, .int .u8 ad, .int .u8 aw, .int .u8 aa] := by
  apply Array.ext_getElem?; intro i
  rcases i with _ | _ | _ | _ | _ | i
  ·exact aW
  ·exact a1
  ·exact aN
  ·exact aI
  ·exact ba
  ·rw [Array.getElem?_eq_none (by simp at z2; omega), Array.getElem?_eq_none (by simp)]
 refine (zH0 ak ai af aq ap aj al  ac ay ah ae ax ar ab  av au ad aw aa  (zd5 aC) (zd5 az) (zd5 aQ) (zd5 aE) (zd5 aY) (zd5 a0) (zh6 a6)  (zd5 a9) (zd5 aV) (zd5 aK) (zd5 a2) (zd5 aG) (zd5 aO) (zh6 aX)  (zh6 aD) (zh6 a7) (zh6 aL) (zh6 aA) (zh6 aM)   W (zr9 hL) (zp2 hsh)).mono fun e W' ⟨he, hg⟩ => ?_
 subst he
 exact ⟨_, rfl, zL9 (tb := 4) zU6 (by kernel_rfl) (by kernel_rfl) (by kernel_rfl) rfl hW' rfl hg⟩
noncomputable def ze7 (os : Os) : World := World.laidAll Tryz.prog os Rows.twistKeepsRow.laid
theorem zx1 (os : Os) : laidMet Tryz.prog Rows.twistKeepsRow.laid ((ze7 os).forCall (fun _ _ => 0) ⟨#[], #[.agg #[.int .i8 0, .int .i8 0, .int .i8 0, .int .i8 0, .int .i8 0, .int .i8 0, .int .u8 0], .agg #[.int .i8 0, .int .i8 0, .int .i8 0, .int .i8 0, .int .i8 0, .int .i8 0, .int .u8 0], .agg #[.int .u8 0, .int .u8 0, .int .u8 0, .int .u8 0, .int .u8 0]], []⟩).memory :=
 laidMet_laidAll _ (by kernel_rfl) (by kernel_rfl)
theorem zs0 (os : Os) {H : Type} (enc : TypeId × Value → H) : ∃ places, DataW.whole enc Tryz.prog ((ze7 os).forCall (fun _ _ => 0) ⟨#[], #[.agg #[.int .i8 0, .int .i8 0, .int .i8 0, .int .i8 0, .int .i8 0, .int .i8 0, .int .u8 0], .agg #[.int .i8 0, .int .i8 0, .int .i8 0, .int .i8 0, .int .i8 0, .int .i8 0, .int .u8 0], .agg #[.int .u8 0, .int .u8 0, .int .u8 0, .int .u8 0, .int .u8 0]], []⟩).memory Tryz.f4.params.toList Rows.twistKeepsSpec.vars false (#[.agg #[.int .i8 0, .int .i8 0, .int .i8 0, .int .i8 0, .int .i8 0, .int .i8 0, .int .u8 0], .agg #[.int .i8 0, .int .i8 0, .int .i8 0, .int .i8 0, .int .i8 0, .int .i8 0, .int .u8 0], .agg #[.int .u8 0, .int .u8 0, .int .u8 0, .int .u8 0, .int .u8 0]] : Array Value).toList 8 = some ([.agg [.agg [.lit (.int .i8 0), .lit (.int .i8 0), .lit (.int .i8 0), .lit (.int .i8 0), .lit (.int .i8 0), .lit (.int .i8 0)], .lit (.int .u8 0)], .agg [.agg [.lit (.int .i8 0), .lit (.int .i8 0), .lit (.int .i8 0), .lit (.int .i8 0), .lit (.int .i8 0), .lit (.int .i8 0)], .lit (.int .u8 0)], .agg [.lit (.int .u8 0), .lit (.int .u8 0), .lit (.int .u8 0), .lit (.int .u8 0), .lit (.int .u8 0)]], [], places) :=
 ⟨[], by kernel_rfl⟩
set_option maxRecDepth 100000 in
theorem zp3 (os : Os) (started : os.Started) (H : Type) (enc : TypeId × Value → H) (F : Stop.Interp) :
  ReturnsInHanded {} Tryz.checked os 4 .any ((OpenSpec.ofChange Rows.twistKeepsSpec).preRow enc Tryz.prog Tryz.f4 Rows.twistKeepsRow.domain false Rows.twistKeepsRow.laid) (((OpenSpec.ofChange Rows.twistKeepsSpec).at F).post enc Tryz.prog Tryz.f4 false true false false) := by
 obtain ⟨places, hx⟩ := zs0 os enc
 refine returnsInHanded_of_row (C := Tryz.checked) (s := OpenSpec.ofChange Rows.twistKeepsSpec) own started (by kernel_rfl) Tryz.func4
  (zl2 (enc := enc) (C := Tryz.checked) false (ze7 os) #[.agg #[.int .i8 0, .int .i8 0, .int .i8 0, .int .i8 0, .int .i8 0, .int .i8 0, .int .u8 0], .agg #[.int .i8 0, .int .i8 0, .int .i8 0, .int .i8 0, .int .i8 0, .int .i8 0, .int .u8 0], .agg #[.int .u8 0, .int .u8 0, .int .u8 0, .int .u8 0, .int .u8 0]] (World.laidAll_os _ _ _) (World.shaped_of_ZipB (by kernel_rfl) (by kernel_rfl)) (by kernel_rfl)
   (OpenSpec.preRow_of_cond 8 hx (by kernel_rfl) (fun k hk => by cases hk) (by kernel_rfl) (by rw [MakeChecks.laidMetH_plain _ _ _ (by kernel_rfl)]; exact zx1 os))) ?_
 intro W base args ds gs before hval hW _ _ _ hL hsh _
 exact zl9 H enc W base args ds gs before hval hW hL hsh
theorem zu9 : Rows.TwistKeepsSaid :=
 OpenClaim.holds_of_cond 4 Tryz.f4 rfl rfl rfl rfl rfl rfl rfl ⟨rfl, rfl, rfl, rfl, rfl⟩ rfl rfl rfl rfl rfl (by kernel_rfl) Tryz.func4 (by kernel_rfl)
  (of_decide_eq_true (by kernel_rfl)) (by unfold Func.isWrapper; first | (rw [if_pos (by decide +kernel)]; kernel_rfl) | (rw [if_neg (by decide +kernel)]; exact ⟨rfl, rfl⟩))
  (fun os started H enc _ F => by rw [OpenClaim.pre_eq_preRow]; exact zp3 os started H enc F)
theorem zs1 (f : FuncId) (fn : Func) (hf : Tryz.pinned.checked.prog.funcNamed "dowel/dowellaw17.TwistKeeps" = some f) (hfn : Tryz.pinned.checked.prog.funcs[f]? = some fn) :
  true = Tryz.pinned.checked.prog.looks [] ∧ ∀ (j : Nat) t, fn.params[j]? = some t → Tryz.pinned.checked.prog.wantsStandIn t = false := by
 obtain rfl : f = 4 := Option.some.inj ((show Tryz.prog.funcNamed "dowel/dowellaw17.TwistKeeps" = some 4 by kernel_rfl).symm.trans hf) |>.symm
 obtain rfl : fn = Tryz.f4 := (Option.some.inj (Tryz.func4.symm.trans hfn)).symm
 refine ⟨by kernel_rfl, fun j t ht => ?_⟩
 rw [Tryz.params4] at ht
 have hm := Array.mem_of_getElem? ht
 have hall : (#[25, 25, 27] : Array TypeId).toList.all (fun t => !Tryz.prog.wantsStandIn t) = true := by kernel_rfl
 have := List.all_eq_true.1 hall t (Array.mem_toList_iff.2 hm)
 have h3 : Tryz.prog.wantsStandIn t = false := by simpa using this
 exact h3
theorem twistKeeps_card : Rows.TwistKeepsCardSaid :=
 Claim7.holds_tied_plain_at .later [] _ _ _ _ zu9 (fun _ h => by cases h) (by kernel_rfl) (fun _ h => by cases h) twistKeeps_row_tie rfl ⟨rfl, rfl⟩ (by kernel_rfl) rfl zs1 (by kernel_rfl)
end Go.Proofs.YthhbibpaeonecaaGreatDoor
