set_option linter.all false
set_option maxHeartbeats 0
theorem G3{p:Prop}(h:p:=by omega):p:=h
theorem G9{p:Prop}(h:p:=by simp):p:=h
theorem Kq{p:Prop}(h:p:=by decide):p:=h
theorem Kw{p:Prop}(h:p:=by dsimp only;omega):p:=h
theorem PX{p:Prop}(h:p:=by simp;omega):p:=h
theorem P5{p:Prop}(h:p:=by rfl):p:=h
theorem aal{a b:Prop}(A:a)(B:b):a/\b:=⟨A,B⟩
theorem aam{a b c:Prop}(A:a)(B:b)(C:c):a/\b/\c:=⟨A,B,C⟩
theorem aan{a b c d:Prop}(A:a)(B:b)(C:c)(D:d):a/\b/\c/\d:=⟨A,B,C,D⟩
theorem aao{a b c d e:Prop}(A:a)(B:b)(C:c)(D:d)(E:e):a/\b/\c/\d/\e:=⟨A,B,C,D,E⟩
theorem aaq{a b c d e f:Prop}(A:a)(B:b)(C:c)(D:d)(E:e)(F:f):a/\b/\c/\d/\e/\f:=⟨A,B,C,D,E,F⟩
theorem aat{a b c d e f g:Prop}(A:a)(B:b)(C:c)(D:d)(E:e)(F:f)(G:g):a/\b/\c/\d/\e/\f/\g:=⟨A,B,C,D,E,F,G⟩
theorem aau{a b c d e f g h:Prop}(A:a)(B:b)(C:c)(D:d)(E:e)(F:f)(G:g)(H:h):a/\b/\c/\d/\e/\f/\g/\h:=⟨A,B,C,D,E,F,G,H⟩
