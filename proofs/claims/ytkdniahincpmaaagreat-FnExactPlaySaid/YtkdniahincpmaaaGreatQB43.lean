/-
  Lists of steps of a law: sizes, copies, equality, marks.
-/
import Derived.Test.YtkdniahincpmaaaGreatQB42
set_option maxRecDepth 100000
set_option maxHeartbeats 16000000
namespace Go.Proofs.YtkdniahincpmaaaGreat
open Go Go.RowKit Tryz
section
attribute [local irreducible] AWp QM OpOk ACalls ChA QsOk MCalls NCalls EnC PY

def gS(k j:Nat):Vf:=⟨((k+18*j:Nat):Int),⟨((k+18*j+1:Nat):Int),⟨((k+18*j+2:Nat):Int),((k+18*j+3:Nat):Int),((k+18*j+4:Nat):Int),⟨((k+18*j+5:Nat):Int),((k+18*j+6:Nat):Int),((k+18*j+7:Nat):Int)⟩,⟨((k+18*j+8:Nat):Int),((k+18*j+9:Nat):Int),((k+18*j+10:Nat):Int)⟩,((k+18*j+11:Nat):Int),((k+18*j+12:Nat):Int)⟩,((k+18*j+13:Nat):Int),⟨((k+18*j+14:Nat):Int),((k+18*j+15:Nat):Int),((k+18*j+16:Nat):Int)⟩⟩,((k+18*j+17:Nat):Int)⟩
theorem Qu6{x:Cmd}:zAc 156 [cmdA x,cmdA x] [.d (.b true)] []:=by
 refine zAC func156 fun w0 Z=>?_
 repeat'(first|(refine zhm fun hb=>?_;try exact zab)|refine zUto ?_|refine zg2 ?_ ?_|refine kc (Qeq (x:=x.lic)) rfl rfl ?_|refine kc (QgV (x:=x.job)) rfl rfl ?_|intro _)
 all_goals first|exact absurd rfl (by assumption)|skip
 refine zr [] ?_ ?_
 repeat'(first|exact ze3|refine ze2 ?_ ?_|refine ze4 ?_|exact ze5|fail)
 all_goals exact zp rfl
theorem Ql5{x:Vf}:zAc 82 [QkO x,QkO x] [.d (.b true)] []:=by
 refine zAC func82 fun w0 Z=>?_
 repeat'(first|(refine zhm fun hb=>?_;try exact zab)|refine zUto ?_|refine zg2 ?_ ?_|refine kc (Qu6 (x:=x.cmd)) rfl rfl ?_|intro _)
 all_goals first|exact absurd rfl (by assumption)|skip
 refine zr [] ?_ ?_
 repeat'(first|exact ze3|refine ze2 ?_ ?_|refine ze4 ?_|exact ze5|fail)
 all_goals exact zp rfl
theorem Z9{l:List Vf}{x:Int}(h:l.length<=9223372036854775807)(hx:0<=x/\x<=1048576):SC Tryz.prog 25 (zL (JR l)) x (l.length<=1048576):=by
 refine zMC func25 fun w0 Z O=>?_
 have hl:=YG l
 repeat'(first|(refine zhm fun hb=>?_;try exact zab)|refine Qd ?_|(apply zch;exact zcg)|exact zhk|refine zg3 ?_ ?_|intro _)
 ·refine zp ?_
  refine Jk (-1) [] (by exact⟨by omega,fun h=>by omega⟩) rfl ?_ ?_ ?_
  all_goals exact zae
 ·refine zp ?_
  refine Jk (x-l.length) [] (by exact⟨by omega,fun _=>by omega⟩) rfl ?_ ?_ ?_
  all_goals exact zae
theorem Xv{l:List Vf}(h:l.length<=1048576):zAc 27 [zL (JR l)] [.row 0] [(0,.row 119 (JR l) true)]:=by
 refine zAC func27 fun w0 Z=>?_
 have hl:=YG l
 repeat'(first|(refine zhm fun hb=>?_;try exact zab)|refine Qd ?_|(apply zch;exact zcg)|exact zhk|refine zg3 ?_ ?_|intro _)
 refine Qa (fun(i:Nat)=>⟨23,[(0,zL (JR l)),(3,.row 7),(4,zI i)],[(7,.row 119 (JR (cpyL l ⟨0,⟨0,⟨0,0,0,⟨0,0,0⟩,⟨0,0,0⟩,0,0⟩,0,⟨0,0,0⟩⟩,0⟩ i)) true)]⟩) (fun i=>i<=l.length) (fun i=>l.length-i) 0 (by exact Xae _) ?_ ?_
 ·refine⟨rfl,?_,?_,rfl⟩
  repeat'(first|exact ze3|refine ze2 ?_ ?_|refine ze4 ?_|exact ze5|fail)
  all_goals exact zp (by first|rfl|(rw[JV];exact(List.map_replicate ..).symm)|(rw[JV];simp[JR]))
 ·intro i c
  have d:(JR (cpyL l ⟨0,⟨0,⟨0,0,0,⟨0,0,0⟩,⟨0,0,0⟩,0,0⟩,0,⟨0,0,0⟩⟩,0⟩ i)).length=l.length:=by rw[YG];exact Qt _ _ c
  have b:=Qt l ⟨0,⟨0,⟨0,0,0,⟨0,0,0⟩,⟨0,0,0⟩,0,0⟩,0,⟨0,0,0⟩⟩,0⟩ c
  by_cases a:i<l.length
  ·repeat'(first|(refine zhm fun hb=>?_;try exact zab)|refine Qd ?_|(apply zch;exact zcg)|exact zhk|refine zg3 ?_ ?_|refine kc (Qmm (x:=nth l i)) rfl rfl ?_|refine kq (Qmm (x:=nth l i)) rfl rfl ?_|intro _)
   refine⟨i+1,by omega,by omega,?_⟩
   refine⟨rfl,?_,?_,rfl⟩
   repeat'(first|exact ze3|refine ze2 ?_ ?_|refine ze4 ?_|exact ze5|fail)
   all_goals exact zp (by first|rfl|exact Yf (f:=Qo9) a)
  ·obtain rfl:i=l.length:=by omega
   repeat'(first|(refine zhm fun hb=>?_;try exact zab)|refine Qd ?_|(apply zch;exact zcg)|exact zhk|refine zg3 ?_ ?_|intro _)
   refine zr [7] ?_ ?_
   repeat'(first|exact ze3|refine ze2 ?_ ?_|refine ze4 ?_|exact ze5|fail)
   all_goals exact zp (by first|rfl|rw[Ye])
theorem W2{l:List Vf}(h:l.length<=1000000000) :zAc 29 [zL (JR l),zL (JR l)] [.d (.b true)] []:=by
 refine zAC func29 fun w0 Z=>?_
 have hl:=YG l
 repeat'(first|(refine zhm fun hb=>?_;try exact zab)|refine Qd ?_|(apply zch;exact zcg)|exact zhk|refine zg3 ?_ ?_|intro _)
 all_goals first|exact absurd rfl (by assumption)|skip
 refine Qa (fun(i:Nat)=>⟨27,[(0,zL (JR l)),(1,zL (JR l)),(5,zI i)],[]⟩) (fun i=>i<=l.length) (fun i=>l.length-i) 0 (by exact Xae _) ?_ ?_
 ·refine⟨rfl,?_,?_,rfl⟩
  repeat'(first|exact ze3|refine ze2 ?_ ?_|refine ze4 ?_|exact ze5|fail)
  all_goals exact zp rfl
 ·intro i hi
  by_cases a:i<l.length
  ·repeat'(first|(refine zhm fun hb=>?_;try exact zab)|refine Qd ?_|(apply zch;exact zcg)|exact zhk|refine zg3 ?_ ?_|refine kc (Ql5 (x:=nth l i)) rfl rfl ?_|refine kq (Ql5 (x:=nth l i)) rfl rfl ?_|intro _)
   all_goals first|exact absurd rfl (by assumption)|skip
   refine⟨i+1,by omega,by omega,?_⟩
   refine⟨rfl,?_,?_,rfl⟩
   repeat'(first|exact ze3|refine ze2 ?_ ?_|refine ze4 ?_|exact ze5|fail)
   all_goals exact zp rfl
  ·repeat'(first|(refine zhm fun hb=>?_;try exact zab)|refine Qd ?_|(apply zch;exact zcg)|exact zhk|refine zg3 ?_ ?_|intro _)
   refine zr [] ?_ ?_
   repeat'(first|exact ze3|refine ze2 ?_ ?_|refine ze4 ?_|exact ze5|fail)
   all_goals exact zp rfl
theorem Qbr{l:List Vf}(h:l.length<=1048576):DC Tryz.prog 27 [zL (JR l)] [zL (JR l)]:=dc_a (Xv h)
theorem ZT{l:List Vf}{k:Nat}(h:l.length<=1000000000)(hk:k<=10000000000000000):MCalls Tryz.prog 31 [.row 1000000,zI k] [(1000000,.row 119 (JR l) true)] (fun(_:Unit)=>True) (fun _=>[zI ((k+18*l.length:Nat):Int)]) (fun _=>[(1000000,.row 119 (JR (JQ (gS k) l.length)) true)]) (fun _=>[]):=by
 refine Jb tt func31 rfl rfl rfl ⟨.inl rfl,trivial⟩ (fun _ _=>⟨⟨⟨rfl,rfl,(JT (f:=Qo9) (z:=18) (fun _=>rfl) (QG _ _)).symm⟩,trivial⟩,.inl rfl,trivial⟩) (fun w0 Z O=>?_)
 repeat'(first|(refine zhm fun hb=>?_;try exact zab)|refine Qd ?_|(apply zch;exact zcg)|exact zhk|refine zg3 ?_ ?_|intro _)
 refine Qa (fun(i:Nat)=>⟨175,[(0,.row 1000000),(1,zI ((k+18*i:Nat):Int)),(5,zI i)],[(1000000,.row 119 (JR (mkL (gS k) l i)) true)]⟩) (fun i=>i<=l.length) (fun i=>l.length-i) 0 (by omega) ?_ ?_
 ·refine⟨rfl,?_,?_,rfl⟩
  repeat'(first|exact ze3|refine ze2 ?_ ?_|refine ze4 ?_|exact ze5|fail)
  all_goals exact zp (by first|rfl)
 ·intro i b
  have a:(JR (mkL (gS k) l i)).length=l.length:=by rw[JR,Xar,JO (gS k) l b]
  have c:=JO (gS k) l b
  repeat'(first|(refine zhm fun hb=>?_;try exact zab)|refine zUtd ?_|(apply zch;exact zcg)|exact zhk|refine zg3 ?_ ?_|(apply YV;first|(refine Vv rfl rfl rfl rfl rfl a (by omega) rfl rfl rfl rfl ?_)|(refine WY rfl rfl rfl rfl rfl a (by omega) (QcG (by omega)) rfl rfl rfl rfl ?_))|refine zln fun _=>?_|refine zop ?_|intro _)
  ·refine⟨i+1,by omega,by omega,?_⟩
   refine⟨rfl,?_,?_,rfl⟩
   repeat'(first|exact ze3|refine ze2 ?_ ?_|refine ze4 ?_|exact ze5|fail)
   all_goals exact zp (by first|rfl|exact Qay (f:=Qo9) (by omega))
  ·obtain rfl:i=l.length:=by omega
   refine zp ?_
   refine Jk () [] (by exact trivial) rfl ?_ ?_ ?_
   repeat'(first|exact ze3|refine ze2 ?_ ?_|refine ze4 ?_|exact ze5|fail)
   all_goals exact zp (by first|rfl|rw[Qau])

theorem QjE{w:Wld}{k:Nat}(h:J6 1048576 w)(hk:k<=1000000000):kWd k w<=10000000000000000:=by
 have h1:=Zt h.first (k:=k) (by omega)
 have h2:=QmQ h.ctl (k:=kSt k w.first) (by omega)
 have h3:=h.bytes
 have h4:=h.codes
 unfold kWd
 omega
theorem QsZ{w:Wld}{l:List Vf}(hl:l≠[])(hw:QK w=true):JY w l=J3 (JY w (l.take (l.length-1))) (nth l (l.length-1))/\pyS w l=Wp (JY w (l.take (l.length-1))) (nth l (l.length-1)):=by
 have h0:=Xbd.2 hl
 have a:=Zw (w:=w) (l:=l) (i:=l.length-1) (by omega)
 rw[show l.length-1+1=l.length by omega,Xal,(QrA (QgK hw _ (by omega))).1]at a
 exact⟨a,by unfold pyS;rw[if_neg hl,if_pos hw]⟩
theorem lawPlay_0{w:Wld}{l:List Vf}{r:Wld}(h:J6 9223372036854775807 w)(hl:l.length<=9223372036854775807)(hL:l.length<=1048576)(hS:J6 1048576 w)(hr:Yo r)(c1:DC Tryz.prog 18 [wldA w,zL (JR l)] [wldA r])(c2:zAc 14 [wldA w,zL (JR l)] [Qnh r] (QnV r)):zAc 6 [wldA w,zL (JR l)] [.d (.b true)] []:=by
 refine zAC func6 fun w0 Z=>?_
 have c:=hS.d
 have hk:=QjE hS (k:=1) (by omega)
 have a:DC Tryz.prog 14 [wldA w,zL (JR l)] [wldA r]:=Qev (dc_a c2)
 repeat'(first|(apply QY 14;kernel_rfl;exact rfl)|(refine zhm fun hb=>?_;try exact zab)|refine zUtd ?_|(apply zch;exact zcg)|exact zhk|refine zg3 ?_ ?_|(apply YV;first|(refine kc (t:=30) (QaW hS) rfl rfl ?_)|(refine kc (t:=32) (Xv hL) rfl rfl ?_)|(refine kc (t:=35) c2 rfl rfl ?_))|refine zln fun _=>?_|refine zop ?_|refine kc (JH (w:=r) hr.w) rfl rfl ?_|refine kc (JH (w:=w) (hS.mono (by omega))) rfl rfl ?_|refine kc (W2 (l:=l) (by omega)) rfl rfl ?_|refine kc (YD (w:=r) (k:=1) hr (by omega)) rfl rfl ?_|(refine km [] (Zf h) rfl rfl (fun i hi=>?_);try dsimp only at hi)|(refine km [] (Z9 (l:=l) hl (by omega)) rfl rfl (fun i hi=>?_);try dsimp only at hi)|refine kmu (Qbl hS) ?_|refine kmu (Qbr hL) ?_|(refine km [] (c1) rfl rfl (fun i hi=>?_);try dsimp only at hi)|(refine km [] (a) rfl rfl (fun i hi=>?_);try dsimp only at hi)|(refine km [30,1030,2030,3030,4030,5030,6030,7030,8030,9030,10030,11030,12030,13030,14030,15030,16030,17030,18030,19030,20030] (W8 (w:=w) (k:=1) c (by omega)) rfl rfl (fun i hi=>?_);try dsimp only at hi)|(refine km [32] (ZT (l:=l) (k:=kWd 1 w) (by omega) (by omega)) rfl rfl (fun i hi=>?_);try dsimp only at hi)|(refine km [35,1035,2035,3035,4035,5035,6035,7035,8035,9035,10035,11035,12035,13035,14035,15035,16035,17035,18035,19035,20035] (W8 (w:=r) (k:=1) hr (by omega)) rfl rfl (fun i hi=>?_);try dsimp only at hi)|refine kq (JH (w:=r) hr.w) rfl rfl ?_|refine kq (JH (w:=w) (hS.mono (by omega))) rfl rfl ?_|refine kq (W2 (l:=l) (by omega)) rfl rfl ?_|refine kq (YD (w:=r) (k:=1) hr (by omega)) rfl rfl ?_|intro _)
 all_goals
  refine zr [] ?_ ?_
  repeat'(first|exact ze3|refine ze2 ?_ ?_|refine ze4 ?_|exact ze5|fail)
  all_goals exact zp rfl
theorem lawPlay_1{w:Wld}{l:List Vf}{up:Bool}{s:Qb}{b:List UInt8}{cs:List Int}(h:J6 9223372036854775807 w)(hl:l.length<=9223372036854775807)(hL:l.length<=1048576)(hS:J6 1048576 w)(hr:Yo ⟨up,s,zC,b,cs⟩)(c1:DC Tryz.prog 18 [wldA w,zL (JR l)] [wldA ⟨up,s,zC,b,cs⟩])(c2:zAc 14 [wldA w,zL (JR l)] [QxH ⟨up,s,zC,b,cs⟩] (Qxb ⟨up,s,zC,b,cs⟩)):zAc 6 [wldA w,zL (JR l)] [.d (.b true)] []:=by
 refine zAC func6 fun w0 Z=>?_
 have c:=hS.d
 have hk:=QjE hS (k:=1) (by omega)
 have a:DC Tryz.prog 14 [wldA w,zL (JR l)] [wldA ⟨up,s,zC,b,cs⟩]:=Qev (dc_a c2)
 repeat'(first|(apply QY 14;kernel_rfl;exact rfl)|(refine zhm fun hb=>?_;try exact zab)|refine zUtd ?_|(apply zch;exact zcg)|exact zhk|refine zg3 ?_ ?_|(apply YV;first|(refine kc (t:=30) (QaW hS) rfl rfl ?_)|(refine kc (t:=32) (Xv hL) rfl rfl ?_)|(refine kc (t:=35) c2 rfl rfl ?_))|refine zln fun _=>?_|refine zop ?_|refine kc (JH (w:=⟨up,s,zC,b,cs⟩) hr.w) rfl rfl ?_|refine kc (JH (w:=w) (hS.mono (by omega))) rfl rfl ?_|refine kc (W2 (l:=l) (by omega)) rfl rfl ?_|refine kc (YD (w:=⟨up,s,zC,b,cs⟩) (k:=1) hr (by omega)) rfl rfl ?_|(refine km [] (Zf h) rfl rfl (fun i hi=>?_);try dsimp only at hi)|(refine km [] (Z9 (l:=l) hl (by omega)) rfl rfl (fun i hi=>?_);try dsimp only at hi)|refine kmu (Qbl hS) ?_|refine kmu (Qbr hL) ?_|(refine km [] (c1) rfl rfl (fun i hi=>?_);try dsimp only at hi)|(refine km [] (a) rfl rfl (fun i hi=>?_);try dsimp only at hi)|(refine km [30,1030,2030,3030,4030,5030,6030,7030,8030,9030,10030,11030,12030,13030,14030,15030,16030,17030,18030,19030,20030] (W8 (w:=w) (k:=1) c (by omega)) rfl rfl (fun i hi=>?_);try dsimp only at hi)|(refine km [32] (ZT (l:=l) (k:=kWd 1 w) (by omega) (by omega)) rfl rfl (fun i hi=>?_);try dsimp only at hi)|(refine km [35,1035,2035,3035,4035,5035,6035,7035] (Qiv (k:=1) hr (by omega)) rfl rfl (fun i hi=>?_);try dsimp only at hi)|refine kq (JH (w:=⟨up,s,zC,b,cs⟩) hr.w) rfl rfl ?_|refine kq (JH (w:=w) (hS.mono (by omega))) rfl rfl ?_|refine kq (W2 (l:=l) (by omega)) rfl rfl ?_|refine kq (YD (w:=⟨up,s,zC,b,cs⟩) (k:=1) hr (by omega)) rfl rfl ?_|intro _)
 all_goals
  refine zr [] ?_ ?_
  repeat'(first|exact ze3|refine ze2 ?_ ?_|refine ze4 ?_|exact ze5|fail)
  all_goals exact zp rfl
theorem lawPlay_2{w:Wld}{l:List Vf}{up:Bool}{s:Qb}{c:Ctl}{cs:List Int}(h:J6 9223372036854775807 w)(hl:l.length<=9223372036854775807)(hL:l.length<=1048576)(hS:J6 1048576 w)(hr:Yo ⟨up,s,c,[],cs⟩)(c1:DC Tryz.prog 18 [wldA w,zL (JR l)] [wldA ⟨up,s,c,[],cs⟩])(c2:zAc 14 [wldA w,zL (JR l)] [QxJ ⟨up,s,c,[],cs⟩] (Qx0 ⟨up,s,c,[],cs⟩)):zAc 6 [wldA w,zL (JR l)] [.d (.b true)] []:=by
 refine zAC func6 fun w0 Z=>?_
 have e:=hS.d
 have hk:=QjE hS (k:=1) (by omega)
 have a:DC Tryz.prog 14 [wldA w,zL (JR l)] [wldA ⟨up,s,c,[],cs⟩]:=Qev (dc_a c2)
 repeat'(first|(apply QY 14;kernel_rfl;exact rfl)|(refine zhm fun hb=>?_;try exact zab)|refine zUtd ?_|(apply zch;exact zcg)|exact zhk|refine zg3 ?_ ?_|(apply YV;first|(refine kc (t:=30) (QaW hS) rfl rfl ?_)|(refine kc (t:=32) (Xv hL) rfl rfl ?_)|(refine kc (t:=35) c2 rfl rfl ?_))|refine zln fun _=>?_|refine zop ?_|refine kc (JH (w:=⟨up,s,c,[],cs⟩) hr.w) rfl rfl ?_|refine kc (JH (w:=w) (hS.mono (by omega))) rfl rfl ?_|refine kc (W2 (l:=l) (by omega)) rfl rfl ?_|refine kc (YD (w:=⟨up,s,c,[],cs⟩) (k:=1) hr (by omega)) rfl rfl ?_|(refine km [] (Zf h) rfl rfl (fun i hi=>?_);try dsimp only at hi)|(refine km [] (Z9 (l:=l) hl (by omega)) rfl rfl (fun i hi=>?_);try dsimp only at hi)|refine kmu (Qbl hS) ?_|refine kmu (Qbr hL) ?_|(refine km [] (c1) rfl rfl (fun i hi=>?_);try dsimp only at hi)|(refine km [] (a) rfl rfl (fun i hi=>?_);try dsimp only at hi)|(refine km [30,1030,2030,3030,4030,5030,6030,7030,8030,9030,10030,11030,12030,13030,14030,15030,16030,17030,18030,19030,20030] (W8 (w:=w) (k:=1) e (by omega)) rfl rfl (fun i hi=>?_);try dsimp only at hi)|(refine km [32] (ZT (l:=l) (k:=kWd 1 w) (by omega) (by omega)) rfl rfl (fun i hi=>?_);try dsimp only at hi)|(refine km [35,1035,2035,3035,4035,5035,6035,7035,8035,9035,10035,11035,12035,13035,14035,15035,16035,17035,18035,19035] (Qjh (k:=1) hr (by omega)) rfl rfl (fun i hi=>?_);try dsimp only at hi)|refine kq (JH (w:=⟨up,s,c,[],cs⟩) hr.w) rfl rfl ?_|refine kq (JH (w:=w) (hS.mono (by omega))) rfl rfl ?_|refine kq (W2 (l:=l) (by omega)) rfl rfl ?_|refine kq (YD (w:=⟨up,s,c,[],cs⟩) (k:=1) hr (by omega)) rfl rfl ?_|intro _)
 all_goals
  refine zr [] ?_ ?_
  repeat'(first|exact ze3|refine ze2 ?_ ?_|refine ze4 ?_|exact ze5|fail)
  all_goals exact zp rfl
theorem lawPlay_3{w:Wld}{l:List Vf}(h:J6 9223372036854775807 w)(hl:l.length<=9223372036854775807)(hL:l.length<=1048576)(hS:J6 1048576 w)(hr:Yo zW)(c1:DC Tryz.prog 18 [wldA w,zL (JR l)] [wldA zW])(c2:zAc 14 [wldA w,zL (JR l)] [Qwp] ([])):zAc 6 [wldA w,zL (JR l)] [.d (.b true)] []:=by
 refine zAC func6 fun w0 Z=>?_
 have c:=hS.d
 have hk:=QjE hS (k:=1) (by omega)
 have a:DC Tryz.prog 14 [wldA w,zL (JR l)] [wldA zW]:=Qev (dc_a c2)
 repeat'(first|(apply QY 14;kernel_rfl;exact rfl)|(refine zhm fun hb=>?_;try exact zab)|refine zUtd ?_|(apply zch;exact zcg)|exact zhk|refine zg3 ?_ ?_|(apply YV;first|(refine kc (t:=30) (QaW hS) rfl rfl ?_)|(refine kc (t:=32) (Xv hL) rfl rfl ?_)|(refine kc (t:=35) c2 rfl rfl ?_))|refine zln fun _=>?_|refine zop ?_|refine kc (JH (w:=zW) hr.w) rfl rfl ?_|refine kc (JH (w:=w) (hS.mono (by omega))) rfl rfl ?_|refine kc (W2 (l:=l) (by omega)) rfl rfl ?_|refine kc (QcN (k:=1)) rfl rfl ?_|refine kc (YD (w:=zW) (k:=1) hr (by omega)) rfl rfl ?_|(refine km [] (Zf h) rfl rfl (fun i hi=>?_);try dsimp only at hi)|(refine km [] (Z9 (l:=l) hl (by omega)) rfl rfl (fun i hi=>?_);try dsimp only at hi)|refine kmu (Qbl hS) ?_|refine kmu (Qbr hL) ?_|(refine km [] (c1) rfl rfl (fun i hi=>?_);try dsimp only at hi)|(refine km [] (a) rfl rfl (fun i hi=>?_);try dsimp only at hi)|(refine km [30,1030,2030,3030,4030,5030,6030,7030,8030,9030,10030,11030,12030,13030,14030,15030,16030,17030,18030,19030,20030] (W8 (w:=w) (k:=1) c (by omega)) rfl rfl (fun i hi=>?_);try dsimp only at hi)|(refine km [32] (ZT (l:=l) (k:=kWd 1 w) (by omega) (by omega)) rfl rfl (fun i hi=>?_);try dsimp only at hi)|refine kq (JH (w:=zW) hr.w) rfl rfl ?_|refine kq (JH (w:=w) (hS.mono (by omega))) rfl rfl ?_|refine kq (W2 (l:=l) (by omega)) rfl rfl ?_|refine kq (QcN (k:=1)) rfl rfl ?_|refine kq (YD (w:=zW) (k:=1) hr (by omega)) rfl rfl ?_|intro _)
 all_goals
  refine zr [] ?_ ?_
  repeat'(first|exact ze3|refine ze2 ?_ ?_|refine ze4 ?_|exact ze5|fail)
  all_goals exact zp rfl
theorem lawPlay_n{w:Wld}{l:List Vf}(h:J6 9223372036854775807 w)(hS:¬J6 1048576 w):zAc 6 [wldA w,zL (JR l)] [.d (.b true)] []:=by
 refine zAC func6 fun w0 Z=>?_
 repeat'(first|(refine zhm fun hb=>?_;try exact zab)|refine Qd ?_|(apply zch;exact zcg)|exact zhk|refine zg3 ?_ ?_|(refine km [] (Zf h) rfl rfl (fun i hi=>?_);try dsimp only at hi)|intro _)
 all_goals first|(exfalso;exact hS (hi.2 (by omega)))|skip
 refine zr [] ?_ ?_
 repeat'(first|exact ze3|refine ze2 ?_ ?_|refine ze4 ?_|exact ze5|fail)
 all_goals exact zp rfl
theorem lawPlay_m{w:Wld}{l:List Vf}(h:J6 9223372036854775807 w)(hl:l.length<=9223372036854775807)(hL:¬l.length<=1048576):zAc 6 [wldA w,zL (JR l)] [.d (.b true)] []:=by
 refine zAC func6 fun w0 Z=>?_
 repeat'(first|(refine zhm fun hb=>?_;try exact zab)|refine Qd ?_|(apply zch;exact zcg)|exact zhk|refine zg3 ?_ ?_|(refine km [] (Zf h) rfl rfl (fun i hi=>?_);try dsimp only at hi)|(refine km [] (Z9 (l:=l) hl (by omega)) rfl rfl (fun i hi=>?_);try dsimp only at hi)|intro _)
 all_goals first|(exfalso;exact hL (hi.2 (by omega)))|skip
 all_goals
  refine zr [] ?_ ?_
  repeat'(first|exact ze3|refine ze2 ?_ ?_|refine ze4 ?_|exact ze5|fail)
  all_goals exact zp rfl
theorem lawPlay_e{w:Wld}{l:List Vf}(h:J6 9223372036854775807 w)(hl:l.length<=9223372036854775807):zAc 6 [wldA w,zL (JR l)] [.d (.b true)] []:=by
 by_cases a:J6 1048576 w
 rotate_left
 ·exact lawPlay_n h a
 by_cases f:l.length<=1048576
 ·have u:=a.d
  have ac:=a.codes
  have j:=Qxj (w:=w) (l:=l) u f (by omega)
  have g:=QxX (w:=w) (l:=l) u f (by omega)
  have hk:=QjE a (k:=1) (by omega)
  have m:Yo (JY w l):=by
   have:=QkQ (l:=l) u.v (by omega) (i:=l.length) (Xaj _)
   rwa [Xal]at this
  have hf:(pyS w l=0\/pyS w l=1\/pyS w l=2\/pyS w l=3)/\(pyS w l=1->(JY w l).ctl=zC)/\(pyS w l=2->(JY w l).bytes=[])/\(pyS w l=3->JY w l=zW):=by
   by_cases o:l=[]
   ·have:pyS w l=0:=by unfold pyS;rw[if_pos o]
    exact⟨.inl this,fun e=>by omega,fun e=>by omega,fun e=>by omega⟩
   ·cases x:QK w with
    | true=>
     obtain⟨e1,e2⟩:=QsZ o x
     rw[e1,e2]
     have:=Qda (JY w (l.take (l.length-1))) (nth l (l.length-1))
     exact⟨by omega,Qpl,QqW,fun e=>by omega⟩
    | false=>
     have:pyS w l=3:=by unfold pyS;rw[if_neg o,if_neg (by rw[x];decide)]
     exact⟨by omega,fun e=>by omega,fun e=>by omega,fun _=>QjC x o⟩
  obtain⟨y,p,q,t⟩:=hf
  generalize pyS w l=n at g p q t y
  generalize JY w l=r at j g m p q t
  rcases y with rfl|rfl|rfl|rfl
  ·exact lawPlay_0 h hl f a m j g
  ·obtain⟨up,s,c,b,z⟩:=r
   obtain rfl:c=zC:=p rfl
   exact lawPlay_1 h hl f a m j g
  ·obtain⟨up,s,c,b,z⟩:=r
   obtain rfl:b=[]:=q rfl
   exact lawPlay_2 h hl f a m j g
  ·obtain rfl:r=zW:=t rfl
   exact lawPlay_3 h hl f a m j g
 ·exact lawPlay_m h hl f
end
end Go.Proofs.YtkdniahincpmaaaGreat
